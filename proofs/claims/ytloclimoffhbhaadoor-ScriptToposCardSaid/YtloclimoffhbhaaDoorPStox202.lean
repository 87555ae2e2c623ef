-- Walks by hand.
-- halved
import Derived.Test.YtloclimoffhbhaaDoorSq6
import Derived.Test.YtloclimoffhbhaaDoorPStox201
namespace Go.Proofs.YtloclimoffhbhaaDoor.PSto
open Go.RowKit Go.Proofs.YtloclimoffhbhaaDoorW.PrintWords Go.Proofs.YtloclimoffhbhaaDoorW.PrintLast Go.Proofs.YtloclimoffhbhaaDoorW.PrintMore Go.Proofs.YtloclimoffhbhaaDoorW.PrintSq
attribute [local go_sem] max2_int min2_int max_two min_two max_three min_three max_four min_four   -- for this text's walks alone
set_option linter.unusedVariables false
set_option linter.unusedSimpArgs false

open Go.Proofs.YtloclimoffhbhaaDoor.Scr Go.Proofs.YtloclimoffhbhaaDoor.Facts Go.Proofs.YtloclimoffhbhaaDoor.Bits
theorem rd9 {a b c d e f g h i : ByteArray} : rdOf ByteArray.empty [a, b, c, d, e, f, g, h, i] 2 = c ∧ rdOf ByteArray.empty [a, b, c, d, e, f, g, h, i] 3 = d := ⟨rfl, rfl⟩
/-- An entry's words: may they be, as to the third and the fourth? -/
theorem ace_ways (a b c d e f g h i : ByteArray) : ∃ x : Bool, (∀ k, script_ace.f k [a, b, c, d, e, f, g, h, i] = script_ace.j0 k [a, b, c, d, e, f, g, h, i] x) ∧ (x = false → ∃ u v, c.toList = wayT u ∧ d.toList = whatT v) ∧ ((∃ u v, c.toList = wayT u ∧ d.toList = whatT v) → x = false) := by
 have hl : (([a, b, c, d, e, f, g, h, i] : List ByteArray).length : Int) = 9 := rfl
 unfold script_ace.f
 simp only [hl, rd9.1, rd9.2, if_true, show ((2 : Int) < 9) = True from by decide, show ((3 : Int) < 9) = True from by decide]
 have hd : ∃ y : Bool, (∀ k, (if d.toList = ([112, 101, 114, 109, 105, 116] : List UInt8) then script_ace.j0 k [a, b, c, d, e, f, g, h, i] false else script_ace.j0 k [a, b, c, d, e, f, g, h, i] (d.toList != ([100, 101, 110, 121] : List UInt8))) = script_ace.j0 k [a, b, c, d, e, f, g, h, i] y) ∧ (y = false → ∃ v, d.toList = whatT v) ∧ ((∃ v, d.toList = whatT v) → y = false) := by
  by_cases q : d.toList = [112, 101, 114, 109, 105, 116]
  ·exact ⟨false, fun k => by rw [if_pos q], fun _ => ⟨true, q⟩, fun _ => rfl⟩
  ·refine ⟨d.toList != [100, 101, 110, 121], fun k => by rw [if_neg q], fun h => ⟨false, ?_⟩, ?_⟩
   ·simpa [whatT] using h
   ·rintro ⟨v, hv⟩
    cases v with
    | true => exact absurd hv q
    | false => rw [hv]; rfl
 obtain ⟨y, y1, y2, y3⟩ := hd
 by_cases p : c.toList = [105, 110]
 ·refine ⟨y, fun k => by rw [if_pos p]; exact y1 k, fun h => ?_, fun ⟨u, v, _, hv⟩ => y3 ⟨v, hv⟩⟩
  obtain ⟨v, hv⟩ := y2 h
  exact ⟨true, v, p, hv⟩
 by_cases p2 : c.toList = [111, 117, 116]
 ·refine ⟨y, fun k => by rw [if_neg p, if_pos p2]; exact y1 k, fun h => ?_, fun ⟨u, v, _, hv⟩ => y3 ⟨v, hv⟩⟩
  obtain ⟨v, hv⟩ := y2 h
  exact ⟨false, v, p2, hv⟩
 ·refine ⟨true, fun k => by rw [if_neg p, if_neg p2], fun h => (by cases h), ?_⟩
  rintro ⟨u, v, hu, _⟩
  cases u with
  | true => exact absurd hu p
  | false => exact absurd hu p2
theorem way_eq {c : ByteArray} {u : Bool} (h : c.toList = wayT u) : (c.toList == ([105, 110] : List UInt8)) = u := by
 rw [h]
 cases u <;> rfl
theorem what_eq {c : ByteArray} {u : Bool} (h : c.toList = whatT u) : (c.toList == ([112, 101, 114, 109, 105, 116] : List UInt8)) = u := by
 rw [h]
 cases u <;> rfl
/-- Nine words of an entry, read. -/
theorem ace_go {a b c d e f g h i tf : ByteArray} {n0 n1 : Int} {u v : Bool} {f0 f1 f2 f3 f4 f5 f6 f7 f8 er : Int} (hc : c.toList = wayT u) (hd : d.toList = whatT v) (hn : Ev (fun k => script_numbers.f k [a, b]) ([n0, n1], 0)) (hj : strings_Join.f [e, f, g, h, i] ⟨#[32]⟩ = some tf)
  (hf : Ev (fun k => filter_Parse.f k tf) (f0, f1, f2, f3, f4, f5, f6, f7, f8, er)) : Ev (fun k => script_ace.f k [a, b, c, d, e, f, g, h, i]) (n0, n1, u, v, f0, f1, f2, f3, f4, f5, f6, f7, f8, er) := by
 obtain ⟨x, h1, _, h3⟩ := ace_ways a b c d e f g h i
 obtain rfl := h3 ⟨u, v, hc, hd⟩
 refine Ev.congr h1 (Ev.step (fun k => by rw [script_ace.j0, if_neg (by decide), if_pos (show (2 : Int) ≤ (([a, b, c, d, e, f, g, h, i] : List ByteArray).length : Int) from (by decide : (2 : Int) ≤ 9))]; rfl) (Ev.bind hn ?_))
 have hl : (([a, b, c, d, e, f, g, h, i] : List ByteArray).length : Int) = 9 := rfl
 have hl2 : (([n0, n1] : List Int).length : Int) = 2 := rfl
 have hdr : ([a, b, c, d, e, f, g, h, i] : List ByteArray).drop 4 = [e, f, g, h, i] := rfl
 simp only [if_true, hl, hl2, hdr, hj, Option.bind_some, rd9.1, rd9.2, way_eq hc, what_eq hd, show ((4 : Int) ≤ 9) = True from by decide, show ((0 : Int) < 2) = True from by decide, show ((1 : Int) < 2) = True from by decide, show ((2 : Int) < 9) = True from by decide, show ((3 : Int) < 9) = True from by decide]
 exact Ev.bind hf (Ev.now _)
open Go.Proofs.YtloclimoffhbhaaDoor.Scr Go.Proofs.YtloclimoffhbhaaDoor.Facts Go.Proofs.YtloclimoffhbhaaDoor.Bits
theorem wayT_no (b : Bool) : (32 : UInt8) ∉ wayT b := by cases b <;> decide
theorem whatT_no (b : Bool) : (32 : UInt8) ∉ whatT b := by cases b <;> decide
theorem adds_dev {n : Int} (hs : small n) (T : Lists) : Adds (B (devT n)) T (T.1 ++ [n], T.2.1, T.2.2) := by
 have l1 := D8 hs
 have hsp : strings_Split.f (B (devT n)) ⟨#[32]⟩ = some ([[100, 101, 118, 105, 99, 101], D n.toNat].map B) := split_of (by rw [B_size]; simp only [devT, List.length_append, List.length_cons, List.length_nil]; omega) (by
  rw [B_data]; unfold devT; rw [sp_mid 32 _ _ (by decide), sp_none 32 _ (D_no32 _)])
 obtain ⟨K, hn⟩ := (numbers_ev [n] (by simp) (by intro m hm; obtain rfl := List.mem_singleton.1 hm; exact hs)).rounds
 exact ⟨_, K, hsp, by simp, .inl ⟨toList_B _, n, hn, rfl⟩⟩
theorem adds_lnk {x : S133} (h : small x.f0 ∧ small x.f1 ∧ small x.f2 ∧ small x.f3) (T : Lists) : Adds (B (lnkT x)) T (T.1, T.2.1 ++ [x], T.2.2) := by
 have l0 := D8 h.1
 have l1 := D8 h.2.1
 have l2 := D8 h.2.2.1
 have l3 := D8 h.2.2.2
 have hsp : strings_Split.f (B (lnkT x)) ⟨#[32]⟩ = some ([[108, 105, 110, 107], D x.f0.toNat, D x.f1.toNat, D x.f2.toNat, D x.f3.toNat].map B) := split_of (by rw [B_size]; simp only [lnkT, List.length_append, List.length_cons, List.length_nil]; omega) (by
  rw [B_data]; unfold lnkT; rw [sp_mid 32 _ _ (by decide), sp_mid 32 _ _ (D_no32 _), sp_mid 32 _ _ (D_no32 _), sp_mid 32 _ _ (D_no32 _), sp_none 32 _ (D_no32 _)])
 obtain ⟨K, hn⟩ := (numbers_ev [x.f0, x.f1, x.f2, x.f3] (by simp) (by intro m hm; simp at hm; rcases hm with rfl | rfl | rfl | rfl <;> first | exact h.1 | exact h.2.1 | exact h.2.2.1 | exact h.2.2.2)).rounds
 exact ⟨_, K, hsp, by simp, .inr (.inl ⟨toList_B _, x.f0, x.f1, x.f2, x.f3, hn, rfl⟩)⟩
theorem adds_acl {x : S130} (s0 : small x.f0) (s1 : small x.f1) (hb : bdA x) (hr : rightA x = true) (T : Lists) : Adds (B (aclT x)) T (T.1, T.2.1, T.2.2 ++ [x]) := by
 have l0 := D8 s0
 have l1 := D8 s1
 have l2 := wayT_len x.f2
 have l3 := whatT_len x.f3
 have l4 := fltA_len hb hr
 obtain ⟨_, _, hpa, hfl⟩ := fT_laws hb hr
 have hsp : strings_Split.f (B (aclT x)) ⟨#[32]⟩ = some (([97, 99, 108] :: D x.f0.toNat :: D x.f1.toNat :: wayT x.f2 :: whatT x.f3 :: fW x.f4.f0.f0 x.f4.f0.f1 x.f4.f1.f0 x.f4.f1.f1 x.f4.f2 x.f4.f3.f0 x.f4.f3.f1 x.f4.f4.f0 x.f4.f4.f1).map B) := split_of (by rw [B_size]; simp only [aclT, List.length_append, List.length_cons, List.length_nil]; omega) (by
  rw [B_data]; unfold aclT fltA; rw [sp_mid 32 _ _ (by decide), sp_mid 32 _ _ (D_no32 _), sp_mid 32 _ _ (D_no32 _), sp_mid 32 _ _ (wayT_no _), sp_mid 32 _ _ (whatT_no _), fW_sp])
 have hn := numbers_ev [x.f0, x.f1] (by simp) (by intro m hm; simp at hm; rcases hm with rfl | rfl <;> assumption)
 obtain ⟨K, ha⟩ := (ace_go (toList_B (wayT x.f2)) (toList_B (whatT x.f3)) hn (fW_join hfl) hpa).rounds
 exact ⟨_, K, hsp, by simp, .inr (.inr ⟨toList_B _, x, ha, rfl⟩)⟩
theorem fails_nothing : Fails ⟨#[110, 111, 116, 104, 105, 110, 103]⟩ 6 := by
 have hsp : strings_Split.f (B [110, 111, 116, 104, 105, 110, 103]) ⟨#[32]⟩ = some ([[110, 111, 116, 104, 105, 110, 103]].map B) := split_of (by rw [B_size]; decide) (by
  rw [B_data]; exact sp_none 32 _ (by decide))
 have h0 : (rdOf ByteArray.empty ([[110, 111, 116, 104, 105, 110, 103]].map B) 0).toList = [110, 111, 116, 104, 105, 110, 103] := toList_B _
 exact ⟨by decide, _, 0, hsp, by simp, .inr (.inr (.inr ⟨by rw [h0]; decide, by rw [h0]; decide, by rw [h0]; decide, rfl⟩))⟩
/-- What the first lines make. -/
def firstT (P : List Int) (L : List S133) (A : List S130) (i : Nat) : Lists := (P.take i, L.take (i - P.length), A.take (i - P.length - L.length))
theorem linesT_len (P : List Int) (L : List S133) (A : List S130) : (linesT P L A).length = P.length + L.length + A.length := by simp [linesT]; omega
theorem firstT_zero (P : List Int) (L : List S133) (A : List S130) : firstT P L A 0 = ([], [], []) := by simp [firstT]
theorem firstT_end (P : List Int) (L : List S133) (A : List S130) : firstT P L A (linesT P L A).length = (P, L, A) := by
 rw [linesT_len]
 unfold firstT
 rw [List.take_of_length_le (by omega), List.take_of_length_le (by omega), List.take_of_length_le (by omega)]
theorem firstT_few {P : List Int} {L : List S133} {A : List S130} (h : CanT P L A) (i : Nat) : Lists.few (firstT P L A i) 1000 := by
 obtain ⟨f1, f2, f3⟩ := h.few
 refine ⟨?_, ?_, ?_⟩ <;> (unfold firstT; simp only [List.length_take]; omega)
theorem rd_text {l : List (List UInt8)} {i : Nat} (h : i < l.length) : rdOf ByteArray.empty (l.map B) (i : Int) = B l[i] := by simp [rdOf, List.getD, h]
theorem firstT_adds {P : List Int} {L : List S133} {A : List S130} (h : CanT P L A) {i : Nat} (hi : i < (linesT P L A).length) : Adds (B (linesT P L A)[i]) (firstT P L A i) (firstT P L A (i + 1)) := by
 have hl := linesT_len P L A
 have hi' : i < (P.map devT ++ L.map lnkT ++ A.map aclT).length := hi
 by_cases h1 : i < P.length
 ·have e : (linesT P L A)[i]'hi = devT P[i] := by
   show (P.map devT ++ L.map lnkT ++ A.map aclT)[i]'hi' = _
   rw [List.getElem_append_left (by simp; omega), List.getElem_append_left (by simp; omega), List.getElem_map]
  have e2 : firstT P L A (i + 1) = ((firstT P L A i).1 ++ [P[i]], (firstT P L A i).2.1, (firstT P L A i).2.2) := by
   unfold firstT
   rw [List.take_succ_eq_append_getElem h1, show i + 1 - P.length = 0 by omega, show i - P.length = 0 by omega]
  rw [e, e2]
  exact adds_dev (h.port _ (List.getElem_mem h1)) _
 by_cases h2 : i - P.length < L.length
 ·have e : (linesT P L A)[i]'hi = lnkT L[i - P.length] := by
   show (P.map devT ++ L.map lnkT ++ A.map aclT)[i]'hi' = _
   rw [List.getElem_append_left (by simp; omega), List.getElem_append_right (by simp; omega), List.getElem_map]
   simp only [List.length_map]
  have e2 : firstT P L A (i + 1) = ((firstT P L A i).1, (firstT P L A i).2.1 ++ [L[i - P.length]], (firstT P L A i).2.2) := by
   unfold firstT
   rw [List.take_of_length_le (show P.length ≤ i + 1 by omega), List.take_of_length_le (show P.length ≤ i by omega), show i + 1 - P.length = (i - P.length) + 1 by omega, List.take_succ_eq_append_getElem h2, show (i - P.length) + 1 - L.length = 0 by omega, show i - P.length - L.length = 0 by omega]
  rw [e, e2]
  exact adds_lnk (h.link _ (List.getElem_mem h2)) _
 ·have h3 : i - P.length - L.length < A.length := by omega
  have e : (linesT P L A)[i]'hi = aclT A[i - P.length - L.length] := by
   show (P.map devT ++ L.map lnkT ++ A.map aclT)[i]'hi' = _
   rw [List.getElem_append_right (by simp; omega), List.getElem_map]
   simp only [List.length_append, List.length_map, Nat.sub_add_eq]
  have e2 : firstT P L A (i + 1) = ((firstT P L A i).1, (firstT P L A i).2.1, (firstT P L A i).2.2 ++ [A[i - P.length - L.length]]) := by
   unfold firstT
   rw [List.take_of_length_le (show P.length ≤ i + 1 by omega), List.take_of_length_le (show P.length ≤ i by omega), List.take_of_length_le (show L.length ≤ i + 1 - P.length by omega), List.take_of_length_le (show L.length ≤ i - P.length by omega), show i + 1 - P.length - L.length = (i - P.length - L.length) + 1 by omega, List.take_succ_eq_append_getElem h3]
  rw [e, e2]
  obtain ⟨s0, s1, hb, hr⟩ := h.ace _ (List.getElem_mem h3)
  exact adds_acl s0 s1 hb hr _
theorem steps_ok {P : List Int} {L : List S133} {A : List S130} (h : CanT P L A) : ∀ i : Nat, i < ((linesT P L A).map B).length → Adds (rdOf ByteArray.empty ((linesT P L A).map B) (i : Int)) (firstT P L A i) (firstT P L A (i + 1)) := fun i hi => by
 rw [List.length_map] at hi
 rw [rd_text hi]
 exact firstT_adds h hi
/-- The lines, one that is none among them. -/
def withBad (ls : List ByteArray) (j : Nat) : List ByteArray := ls.take j ++ [⟨#[110, 111, 116, 104, 105, 110, 103]⟩] ++ ls.drop j
theorem withBad_len {ls : List ByteArray} {j : Nat} (h : j ≤ ls.length) : (withBad ls j).length = ls.length + 1 := by
 unfold withBad
 simp only [List.length_append, List.length_take, List.length_drop, List.length_cons, List.length_nil]
 omega
theorem withBad_at {ls : List ByteArray} {j : Nat} (h : j ≤ ls.length) : rdOf ByteArray.empty (withBad ls j) (j : Int) = ⟨#[110, 111, 116, 104, 105, 110, 103]⟩ := by
 have hl : (ls.take j).length = j := by rw [List.length_take]; omega
 unfold withBad rdOf
 rw [List.append_assoc, Int.toNat_natCast, List.getD_eq_getElem?_getD, List.getElem?_append_right (by omega), hl, Nat.sub_self]
 rfl
theorem withBad_lt {ls : List ByteArray} {j i : Nat} (h : j ≤ ls.length) (hi : i < j) : rdOf ByteArray.empty (withBad ls j) (i : Int) = rdOf ByteArray.empty ls (i : Int) := by
 have hl : (ls.take j).length = j := by rw [List.length_take]; omega
 unfold withBad rdOf
 rw [List.append_assoc, Int.toNat_natCast, List.getD_eq_getElem?_getD, List.getD_eq_getElem?_getD, List.getElem?_append_left (by omega), List.getElem?_take, if_pos hi]


open Go.Proofs.YtloclimoffhbhaaDoor.Scr Go.Proofs.YtloclimoffhbhaaDoor.Facts Go.Proofs.YtloclimoffhbhaaDoor.Bits
theorem lit_step {P : Program} {ops : Array Oper} {o : Oper} {a : Act} {Q : Exit → Act → World → Prop} {W : World} {K : Act → World → Prop} (hw : Region.wanted o (yielded ops a.tmps) = true) {N : Tmp} (_hd : o.dst = some N) {cs : Array Value} {t : TypeId} {n : Nat}
  (hrun : (execOp a.eval o).run P W = .ok (.value (.slice (some ⟨W.heap.size, 0, none⟩) n n)) (W.alloc (.cells cs t (0, 0))))
  (h : ∀ g, g = W.heap.size → ∀ w1, w1.heap[g]? = some (.cells cs t (0, 0)) → Below W.heap.size W w1 → K (a.put o.dst (.slice (some ⟨g, 0, none⟩) n n)) w1) : if Region.wanted o (yielded ops a.tmps) = true then Oper.wp P o a W K Q else K (a.put o.dst undef) W :=
 event_step hw hrun (h _ rfl _ (blk_new W _) (below_alloc (Below.refl _ _) _))
/-- A topology's lines read: its three lists as slices. -/
theorem topo_ok_s (A0 : Option Addr) (c0 : Nat) (ls : List ByteArray) (P : List Int) (L : List S133) (A : List S130) (w : World) (hC : Kd.C Kd.string w A0 ls.length ls) (hl : ls.length ≤ 1000) (hG : Hand.Good true false w) (hCan : CanT P L A) (hls : ls = (linesT P L A).map B) :
  Calls Tryd.prog 24 #[.slice A0 ls.length c0] w fun e w' => ∃ A1 c1 A2 c2 A3 c3, e = .returned (.tuple #[.agg #[.slice A1 P.length c1, .slice A2 L.length c2, .slice A3 A.length c3], .int .i64 (-1), .int .i64 0]) ∧ Aside0 (Kd.C (Kd.int .i64) w' A1 P.length P ∧ P.length ≤ c1) ∧ Aside0 (Kd.C k133 w' A2 L.length L ∧ L.length ≤ c2) ∧ Aside0 (Kd.C k130 w' A3 A.length A ∧ A.length ≤ c3) ∧ Below w.heap.size w w' := by
 refine (topo_ok A0 c0 ls (firstT P L A) w hC hl hG (firstT_zero _ _ _) (fun i _ => firstT_few hCan i) (by rw [hls]; exact steps_ok hCan)).mono ?_
 rintro e w' ⟨vP, vL, vA, rfl, h0, h1, h2, hb⟩
 have he : firstT P L A ls.length = (P, L, A) := by rw [hls, List.length_map]; exact firstT_end P L A
 rw [he] at h0 h1 h2
 obtain ⟨A1, c1, rfl⟩ := Kd.R_slice h0
 obtain ⟨A2, c2, rfl⟩ := Kd.R_slice h1
 obtain ⟨A3, c3, rfl⟩ := Kd.R_slice h2
 obtain ⟨_, l0, r0⟩ := Kd.R_reads' h0
 obtain ⟨_, l1, r1⟩ := Kd.R_reads' h1
 obtain ⟨_, l2, r2⟩ := Kd.R_reads' h2
 exact ⟨A1, c1, A2, c2, A3, c3, rfl, ⟨r0, l0⟩, ⟨r1, l1⟩, ⟨r2, l2⟩, hb⟩
theorem topo_bad_s (A0 : Option Addr) (c0 : Nat) (ls bs : List ByteArray) (j : Nat) (P : List Int) (L : List S133) (A : List S130) (w : World) (hC : Kd.C Kd.string w A0 bs.length bs) (hbs : bs = withBad ls j) (hl : ls.length ≤ 900) (hj : j ≤ ls.length) (hG : Hand.Good true false w) (hCan : CanT P L A) (hls : ls = (linesT P L A).map B) :
  Calls Tryd.prog 24 #[.slice A0 bs.length c0] w fun e w' => e = .returned (.tuple #[.agg #[.slice none 0 0, .slice none 0 0, .slice none 0 0], .int .i64 (j : Int), .int .i64 6]) ∧ Below w.heap.size w w' := by
 have hlen : bs.length = ls.length + 1 := by rw [hbs]; exact withBad_len hj
 refine topo_bad j 6 A0 c0 bs (firstT P L A) w hC (by omega) hG (firstT_zero _ _ _) (fun i _ => firstT_few hCan i) (by omega) (fun i hi => ?_) (by rw [hbs, withBad_at hj]; exact fails_nothing)
 rw [hbs, withBad_lt hj hi]
 have := steps_ok hCan i (by rw [← hls]; omega)
 rw [← hls] at this
 exact this
theorem size26' : (Tryd.prog.info? 26).map (·.size) = some 3 := by kernel_rfl
set_option maxHeartbeats 8000000 in
set_option maxRecDepth 100000 in
theorem topos_heavy (kA : Nat) (X0 : Option Addr) (d0 : Nat) (P : List Int) (X1 : Option Addr) (d1 : Nat) (L : List S133) (X2 : Option Addr) (d2 : Nat) (A : List S130) (a : Int) (w : World) (hC0 : Kd.C (Kd.int .i64) w X0 P.length P) (hk0 : P.length ≤ d0) (hC1 : Kd.C k133 w X1 L.length L) (hk1 : L.length ≤ d1) (hC2 : Kd.C k130 w X2 A.length A) (hk2 : A.length ≤ d2) (hG : Hand.Good true true w) (haw : crossbucklaw25_awake.f kA = some true) (hli : crossbucklaw05_Light.f P L A = some false) :
  Calls Tryd.prog 3 #[.agg #[.slice X0 P.length d0, .slice X1 L.length d1, .slice X2 A.length d2], .int .u8 a] w fun e w' => e = .returned (.bool true) ∧ Below w.heap.size w w' := by
 have HC0 := Aside0.mk hC0
 have HC1 := Aside0.mk hC1
 have HC2 := Aside0.mk hC2
 have HK0 := Aside0.mk hk0
 have HK1 := Aside0.mk hk1
 have HK2 := Aside0.mk hk2
 have HG := Aside0.mk hG
 have HAW := Aside0.mk haw
 have HLI := Aside0.mk hli
 clear hC0 hC1 hC2 hk0 hk1 hk2 hG haw hli
 go_enter Tryd.func3, Tryd.ntmps3
 go_wp2_with (first
  | ((with_reducible refine gate_dst (N := 2) rfl ?_); refine box_event ?hg (N := 2) ?hd (cs := #[.slice X0 P.length d0, .slice X1 L.length d1, .slice X2 A.length d2]) (t := 26) ?hr ?_; (case hd => rfl); (case hg => rfl); (case hr => first | (go_simp; done) | (go_simp; rfl)); intro g1 hg w1 hbox hb; have B1 := Aside0.mk hb; have T1 := Aside0.mk hbox; have G1 := Aside0.mk (Nat.le_of_eq hg.symm); have zz := cz3 T1.out; clear hg hbox hb)
  | (go_at_call 19; (with_reducible refine (crossbucklaw05_Light.calls X0 d0 P X1 d1 L X2 d2 A false _ (Kd.C_below HC0.out B1.out) HK0.out (Kd.C_below HC1.out B1.out) HK1.out (Kd.C_below HC2.out B1.out) HK2.out HLI.out).mono ?_); rintro e w2 ⟨rfl, hb⟩; have B2 := Aside0.mk (below_step B1.out hb); clear zz; have T2 := Aside0.mk (blk_below T1.out hb); have zz := cz3 T2.out; clear hb)
  | (go_at_call 21; (with_reducible refine (crossbucklaw25_awake.calls kA true _ (Hand.Good.below true false HG.out B2.out rfl rfl) HAW.out).mono ?_); rintro e w9 ⟨rfl, hb⟩; have B9 := Aside0.mk (below_step B2.out hb); clear hb))
 go_ret
 exact ⟨rfl, B9.out⟩
set_option maxHeartbeats 8000000 in
set_option maxRecDepth 100000 in
theorem topos_wrong (kA kC : Nat) (v : Int) (X0 : Option Addr) (d0 : Nat) (P : List Int) (X1 : Option Addr) (d1 : Nat) (L : List S133) (X2 : Option Addr) (d2 : Nat) (A : List S130) (a : Int) (w : World) (hC0 : Kd.C (Kd.int .i64) w X0 P.length P) (hk0 : P.length ≤ d0) (hC1 : Kd.C k133 w X1 L.length L) (hk1 : L.length ≤ d1) (hC2 : Kd.C k130 w X2 A.length A) (hk2 : A.length ≤ d2) (hG : Hand.Good true true w) (haw : crossbucklaw25_awake.f kA = some true) (hli : crossbucklaw05_Light.f P L A = some true) (hch : crossbuckref05_Check.f kC P L A = some v) (hv : v ≠ 0) :
  Calls Tryd.prog 3 #[.agg #[.slice X0 P.length d0, .slice X1 L.length d1, .slice X2 A.length d2], .int .u8 a] w fun e w' => e = .returned (.bool true) ∧ Below w.heap.size w w' := by
 have HC0 := Aside0.mk hC0
 have HC1 := Aside0.mk hC1
 have HC2 := Aside0.mk hC2
 have HK0 := Aside0.mk hk0
 have HK1 := Aside0.mk hk1
 have HK2 := Aside0.mk hk2
 have HG := Aside0.mk hG
 have HAW := Aside0.mk haw
 have HLI := Aside0.mk hli
 have HCH := Aside0.mk hch
 have hv1 : (v != 0) = true := bne_iff_ne.2 hv
 clear hC0 hC1 hC2 hk0 hk1 hk2 hG haw hli hch hv
 go_enter Tryd.func3, Tryd.ntmps3
 go_wp2_with (first
  | ((with_reducible refine gate_dst (N := 2) rfl ?_); refine box_event ?hg (N := 2) ?hd (cs := #[.slice X0 P.length d0, .slice X1 L.length d1, .slice X2 A.length d2]) (t := 26) ?hr ?_; (case hd => rfl); (case hg => rfl); (case hr => first | (go_simp; done) | (go_simp; rfl)); intro g1 hg w1 hbox hb; have B1 := Aside0.mk hb; have T1 := Aside0.mk hbox; have G1 := Aside0.mk (Nat.le_of_eq hg.symm); have zz := cz3 T1.out; clear hg hbox hb)
  | (go_at_call 19; (with_reducible refine (crossbucklaw05_Light.calls X0 d0 P X1 d1 L X2 d2 A true _ (Kd.C_below HC0.out B1.out) HK0.out (Kd.C_below HC1.out B1.out) HK1.out (Kd.C_below HC2.out B1.out) HK2.out HLI.out).mono ?_); rintro e w2 ⟨rfl, hb⟩; have B2 := Aside0.mk (below_step B1.out hb); clear zz; have T2 := Aside0.mk (blk_below T1.out hb); have zz := cz3 T2.out; clear hb)
  | (go_at_call 20; (with_reducible refine (crossbuckref05_Check.calls kC X0 d0 P X1 d1 L X2 d2 A v _ (Kd.C_below HC0.out B2.out) HK0.out (Kd.C_below HC1.out B2.out) HK1.out (Kd.C_below HC2.out B2.out) HK2.out HCH.out).mono ?_); rintro e w3 ⟨rfl, hb⟩; have B3 := Aside0.mk (below_step B2.out hb); clear zz; have T3 := Aside0.mk (blk_below T2.out hb); have zz := cz3 T3.out; clear hb)
  | (go_at_call 21; (with_reducible refine (crossbucklaw25_awake.calls kA true _ (Hand.Good.below true false HG.out B3.out rfl rfl) HAW.out).mono ?_); rintro e w9 ⟨rfl, hb⟩; have B9 := Aside0.mk (below_step B3.out hb); clear hb))
 go_ret
 exact ⟨rfl, B9.out⟩
def topos_.T10 : Bool × List (List Nat × List Nat) := (true, [([], []), ([], []), ([0, 1], [0, 1]), ([2], [2]), ([], []), ([], []), ([4, 5], [4, 5]), ([6], [6]), ([3, 7], [3, 7])])
def topos_.B10 : List Nat := [0, 0, 3, 7, 0, 0, 48, 112, 255]
theorem topos_.tab10 : rtab .any (opsOf Tryd.f3 10) = topos_.T10 := by kernel_rfl
theorem topos_.bits10 : waitsOk topos_.T10.2 topos_.B10 = true := by kernel_rfl
def topos_.T17 : Bool × List (List Nat × List Nat) := (true, [([], []), ([], []), ([], []), ([1, 2], [1, 2]), ([0, 3], [0, 3]), ([], []), ([4, 5, 4], [4, 5]), ([], []), ([], []), ([7, 8], [7, 8]), ([6, 9, 6], [6, 9]), ([10, 10, 0, 1, 2, 3, 4, 5, 6, 7, 8, 9, 10], [10])])
def topos_.B17 : List Nat := [0, 0, 0, 6, 15, 0, 63, 0, 0, 384, 1023, 2047]
theorem topos_.tab17 : rtab .any (opsOf Tryd.f3 17) = topos_.T17 := by kernel_rfl
theorem topos_.bits17 : waitsOk topos_.T17.2 topos_.B17 = true := by kernel_rfl
set_option maxHeartbeats 8000000 in
set_option maxRecDepth 100000 in
theorem topos_right (kA kC kP kR kS : Nat) (ls : List ByteArray) (X0 : Option Addr) (d0 : Nat) (P : List Int) (X1 : Option Addr) (d1 : Nat) (L : List S133) (X2 : Option Addr) (d2 : Nat) (A : List S130) (a : Int) (w : World) (hC0 : Kd.C (Kd.int .i64) w X0 P.length P) (hk0 : P.length ≤ d0) (hC1 : Kd.C k133 w X1 L.length L) (hk1 : L.length ≤ d1) (hC2 : Kd.C k130 w X2 A.length A) (hk2 : A.length ≤ d2) (hG : Hand.Good true true w) (haw : crossbucklaw25_awake.f kA = some true) (hli : crossbucklaw05_Light.f P L A = some true) (hch : crossbuckref05_Check.f kC P L A = some 0) (hp : script_PrintTopo.f kP P L A = some ls) (hr : crossbuckref25_Topo.f kR P L A = some ls) (hs : crossbucklaw25_sameTopo.f kS P L A P L A = some true)
  (hCan : CanT P L A) (hls : ls = (linesT P L A).map B) (hl : ls.length ≤ 300) (ha0 : 0 ≤ a) (ha1 : a ≤ 255) :
  Calls Tryd.prog 3 #[.agg #[.slice X0 P.length d0, .slice X1 L.length d1, .slice X2 A.length d2], .int .u8 a] w fun e w' => e = .returned (.bool true) ∧ Below w.heap.size w w' := by
 have HC0 := Aside0.mk hC0
 have HC1 := Aside0.mk hC1
 have HC2 := Aside0.mk hC2
 have HK0 := Aside0.mk hk0
 have HK1 := Aside0.mk hk1
 have HK2 := Aside0.mk hk2
 have HG := Aside0.mk hG
 have HAW := Aside0.mk haw
 have HLI := Aside0.mk hli
 have HCH := Aside0.mk hch
 have HP := Aside0.mk hp
 have HR := Aside0.mk hr
 have HS := Aside0.mk hs
 have HCAN := Aside0.mk hCan
 have HLS := Aside0.mk hls
 have HL := Aside0.mk hl
 have HA0 := Aside0.mk ha0
 have HA1 := Aside0.mk ha1
 have hdz : (wrap64 ((ls.length : Int) + 1) = 0) = False := eq_false (by rw [wrap64_id _ (by omega) (by omega)]; omega)
 obtain ⟨j, hj⟩ : ∃ j : Nat, j = a.toNat % (ls.length + 1) := ⟨_, rfl⟩
 have HJ := Aside0.mk (show (wrap64 a).tmod (wrap64 ((ls.length : Int) + 1)) = (j : Int) by
  rw [wrap64_id a (by omega) (by omega), wrap64_id _ (by omega) (by omega), Int.tmod_eq_emod_of_nonneg ha0, hj]
  obtain ⟨m, rfl⟩ := Int.eq_ofNat_of_zero_le ha0
  rw [Int.toNat_natCast]
  first | exact (Int.natCast_emod _ _).symm | exact (Int.ofNat_emod _ _).symm | (push_cast; rfl))
 have HJL := Aside0.mk (show j ≤ ls.length by have h9 : a.toNat % (ls.length + 1) < ls.length + 1 := Nat.mod_lt _ (Nat.succ_pos _); rw [← hj] at h9; omega)
 have jj : ((j : Int) == (j : Int)) = true := beq_self_eq_true _
 clear hj
 have ll1 : ((ls.length : Int) != (ls.length : Int)) = false := bne_self_eq_false _
 have ll2 : ((ls.length : Int) == (ls.length : Int)) = true := beq_self_eq_true _
 clear hC0 hC1 hC2 hk0 hk1 hk2 hG haw hli hch hp hr hs hCan hls hl ha0 ha1
 go_enter Tryd.func3, Tryd.ntmps3
 go_wp2_with (first
  | ((with_reducible refine gate_dst (N := 2) rfl ?_); refine box_event ?hg (N := 2) ?hd (cs := #[.slice X0 P.length d0, .slice X1 L.length d1, .slice X2 A.length d2]) (t := 26) ?hr ?_; (case hd => rfl); (case hg => rfl); (case hr => first | (go_simp; done) | (go_simp; rfl)); intro g1 hg w1 hbox hb; have B1 := Aside0.mk hb; have T1 := Aside0.mk hbox; have G1 := Aside0.mk (Nat.le_of_eq hg.symm); have zz := cz3 T1.out; clear hg hbox hb)
  | (go_at_call 19; (with_reducible refine (crossbucklaw05_Light.calls X0 d0 P X1 d1 L X2 d2 A true _ (Kd.C_below HC0.out B1.out) HK0.out (Kd.C_below HC1.out B1.out) HK1.out (Kd.C_below HC2.out B1.out) HK2.out HLI.out).mono ?_); rintro e w2 ⟨rfl, hb⟩; have B2 := Aside0.mk (below_step B1.out hb); clear zz; have T2 := Aside0.mk (blk_below T1.out hb); have zz := cz3 T2.out; clear hb)
  | (go_at_call 20; (with_reducible refine (crossbuckref05_Check.calls kC X0 d0 P X1 d1 L X2 d2 A 0 _ (Kd.C_below HC0.out B2.out) HK0.out (Kd.C_below HC1.out B2.out) HK1.out (Kd.C_below HC2.out B2.out) HK2.out HCH.out).mono ?_); rintro e w3 ⟨rfl, hb⟩; have B3 := Aside0.mk (below_step B2.out hb); clear zz; have T3 := Aside0.mk (blk_below T2.out hb); have zz := cz3 T3.out; clear hb)
  | (go_at_call 22; (with_reducible refine (script_PrintTopo.calls kP X0 d0 P X1 d1 L X2 d2 A ls _ (Hand.Good.below false true HG.out B3.out rfl rfl) (Kd.C_below HC0.out B3.out) HK0.out (Kd.C_below HC1.out B3.out) HK1.out (Kd.C_below HC2.out B3.out) HK2.out HP.out).mono ?_); rintro e w4 ⟨v4, rfl, hr, hb⟩; obtain ⟨A5, c5, e5⟩ := Kd.R_slice hr; subst e5; obtain ⟨_, hc5, hC5⟩ := Kd.R_reads' hr; have C4 := Aside0.mk hC5; have K4 := Aside0.mk hc5; clear hr hc5 hC5; have B4 := Aside0.mk (below_step B3.out hb); clear zz; have T4 := Aside0.mk (blk_below T3.out hb); have zz := cz3 T4.out; clear hb)
  | (go_at_call 23; (with_reducible refine (crossbuckref25_Topo.calls kR X0 d0 P X1 d1 L X2 d2 A ls _ (Kd.C_below HC0.out B4.out) HK0.out (Kd.C_below HC1.out B4.out) HK1.out (Kd.C_below HC2.out B4.out) HK2.out HR.out).mono ?_); rintro e w5 ⟨v5, rfl, hr, hb⟩; obtain ⟨A6, c6, e5⟩ := Kd.R_slice hr; subst e5; obtain ⟨_, hc5, hC5⟩ := Kd.R_reads' hr; have C5 := Aside0.mk hC5; have K5 := Aside0.mk hc5; clear hr hc5 hC5; have B5 := Aside0.mk (below_step B4.out hb); clear zz; have T5 := Aside0.mk (blk_below T4.out hb); have zz := cz3 T5.out; have C45 := Aside0.mk (Kd.C_below C4.out hb); clear hb))
 go_loopg [34] ls.length (fun kq v34 wl => ∃ (i : Nat) (ii : Int), i + kq = ls.length ∧ v34 = .int .i64 ii ∧ Aside0 (ii = (i : Int)) ∧ Aside0 (i ≤ ls.length) ∧ Aside0 (Below w5.heap.size w5 wl))
 case atStart => exact ⟨0, 0, by omega, rfl, ⟨rfl⟩, ⟨Nat.zero_le _⟩, ⟨Below.refl _ _⟩⟩
 case round =>
  clear zz
  obtain ⟨i, ii, hi, rfl, HII, HIM, BL⟩ := hrel
  have HI := Aside0.mk hi
  by_cases hlt : i < ls.length
  ·have HLT := Aside0.mk hlt
   have p : 0 ≤ ii := by have := HII.out; omega
   have q : ii < (ls.length : Int) := by have := HII.out; omega
   have hcn : decide (ii < (ls.length : Int)) = true := decide_eq_true q
   obtain ⟨ad, e1, hx⟩ := Kd.at_string (Kd.C_below C45.out BL.out) ii p q
   cases e1
   obtain ⟨ad2, e2, hy⟩ := Kd.at_string (Kd.C_below C5.out BL.out) ii p q
   cases e2
   obtain ⟨sl, hsl⟩ : ∃ sl, sl = rdOf ByteArray.empty ls ii := ⟨_, rfl⟩
   rw [← hsl] at hx hy
   have ss2 : (sl.toList != sl.toList) = false := bne_self_eq_false _
   clear hi hlt hsl
   replace p := eq_true p
   go_wp2
   have hq0 : wr.drew.cell? (ad.add ii.toNat) = some (.string sl) := pw_cell_below (below_drew1 (Below.refl _ _)) hx
   have hq1 : wr.drew.cell? (ad2.add ii.toNat) = some (.string sl) := pw_cell_below (below_drew1 (Below.refl _ _)) hy
   refine start_ (n := 9) (S := fun w' => w'.cell? (ad.add ii.toNat) = some (.string sl) ∧ w'.cell? (ad2.add ii.toNat) = some (.string sl)) (ds := []) #[false, false, false, false, false, false, false, false, false] (by kernel_rfl) rfl rfl ⟨hq0, hq1⟩ (fun hHeld => ?_)
   refine with_tabW topos_.tab10 topos_.bits10 (fun HT_ HW_ => ?_)
   refine pure_ (i := 0) (N := some 37) (v := ?_) (a' := ?_) #[true, false, false, false, false, false, false, false, false] rfl rfl (any_of HT_.out (by kernel_rfl)) (fun _ _ _ h => h) (Or.inl ⟨by rfl, ?_⟩) ?_ ?_
   rotate_left
   ·intro w'
    go_simp
    with_reducible rfl
   rotate_left
   ·simp only [Act.put, List.setIfInBounds_toArray, List.set_cons_zero, List.set_cons_succ, i64_w, i32_w]
    rfl
   refine pure_ (i := 1) (N := some 38) (v := ?_) (a' := ?_) #[true, true, false, false, false, false, false, false, false] rfl rfl (any_of HT_.out (by kernel_rfl)) (fun _ _ _ h => h) (Or.inl ⟨by rfl, ?_⟩) ?_ ?_
   rotate_left
   ·intro w'
    go_simp
    with_reducible rfl
   rotate_left
   ·simp only [Act.put, List.setIfInBounds_toArray, List.set_cons_zero, List.set_cons_succ, i64_w, i32_w]
    rfl
   refine pure_ (i := 2) (N := some 39) (v := ?_) (a' := ?_) #[true, true, true, false, false, false, false, false, false] rfl rfl (any_of HT_.out (by kernel_rfl)) (fun _ _ _ h => h) (Or.inl ⟨by rfl, ?_⟩) ?_ ?_
   rotate_left
   ·intro w'
    go_simp
    with_reducible rfl
   rotate_left
   ·simp only [Act.put, List.setIfInBounds_toArray, List.set_cons_zero, List.set_cons_succ, i64_w, i32_w]
    rfl
   refine pure_ (i := 4) (N := some 41) (v := ?_) (a' := ?_) #[true, true, true, false, true, false, false, false, false] rfl rfl (any_of HT_.out (by kernel_rfl)) (fun _ _ _ h => h) (Or.inl ⟨by rfl, ?_⟩) ?_ ?_
   rotate_left
   ·intro w'
    go_simp
    with_reducible rfl
   rotate_left
   ·simp only [Act.put, List.setIfInBounds_toArray, List.set_cons_zero, List.set_cons_succ, i64_w, i32_w]
    rfl
   refine pure_ (i := 5) (N := some 42) (v := ?_) (a' := ?_) #[true, true, true, false, true, true, false, false, false] rfl rfl (any_of HT_.out (by kernel_rfl)) (fun _ _ _ h => h) (Or.inl ⟨by rfl, ?_⟩) ?_ ?_
   rotate_left
   ·intro w'
    go_simp
    with_reducible rfl
   rotate_left
   ·simp only [Act.put, List.setIfInBounds_toArray, List.set_cons_zero, List.set_cons_succ, i64_w, i32_w]
    rfl
   refine pure_ (i := 6) (N := some 43) (v := ?_) (a' := ?_) #[true, true, true, false, true, true, true, false, false] rfl rfl (any_of HT_.out (by kernel_rfl)) (fun _ _ _ h => h) (Or.inl ⟨by rfl, ?_⟩) ?_ ?_
   rotate_left
   ·intro w'
    go_simp
    with_reducible rfl
   rotate_left
   ·simp only [Act.put, List.setIfInBounds_toArray, List.set_cons_zero, List.set_cons_succ, i64_w, i32_w]
    rfl
   refine take_ (i := 3) (N := some 40) (v := ?_) (a' := ?_) #[true, true, true, true, true, true, true, false, false] rfl rfl (take_ofW HT_.out HW_.out (by kernel_rfl)) (fun _ _ _ h => h) (Or.inl ⟨by rfl, ?_⟩) hHeld ?_ ?_
   rotate_left
   ·rintro w' ⟨s0, s1⟩
    go_simp
    with_reducible rfl
   rotate_left
   ·simp only [Act.put, List.setIfInBounds_toArray, List.set_cons_zero, List.set_cons_succ, i64_w, i32_w]
    rfl
   refine take_ (i := 7) (N := some 44) (v := ?_) (a' := ?_) #[true, true, true, true, true, true, true, true, false] rfl rfl (take_ofW HT_.out HW_.out (by kernel_rfl)) (fun _ _ _ h => h) (Or.inl ⟨by rfl, ?_⟩) hHeld ?_ ?_
   rotate_left
   ·rintro w' ⟨s0, s1⟩
    go_simp
    with_reducible rfl
   rotate_left
   ·simp only [Act.put, List.setIfInBounds_toArray, List.set_cons_zero, List.set_cons_succ, i64_w, i32_w]
    rfl
   refine pure_ (i := 8) (N := some 45) (v := ?_) (a' := ?_) #[true, true, true, true, true, true, true, true, true] rfl rfl (any_of HT_.out (by kernel_rfl)) (fun _ _ _ h => h) (Or.inl ⟨by rfl, ?_⟩) ?_ ?_
   rotate_left
   ·intro w'
    go_simp
    with_reducible rfl
   rotate_left
   ·simp only [Act.put, List.setIfInBounds_toArray, List.set_cons_zero, List.set_cons_succ, i64_w, i32_w]
    rfl
   refine done_ (done_of HT_.out (by kernel_rfl)) ?_
   go_wp2
   go_roundg (ls.length - (i + 1))
   case measure => have := HI.out; have := HLT.out; omega
   case rel => exact ⟨i + 1, ii + 1, by have := HLT.out; omega, by rw [wrap64_id _ (by have := HII.out; omega) (by have := HII.out; have := HLT.out; have := HL.out; omega)], ⟨by have := HII.out; omega⟩, ⟨by have := HLT.out; omega⟩, ⟨below_drew1 BL.out⟩⟩
  ·have hcn : decide (ii < (ls.length : Int)) = false := decide_eq_false (by have := HII.out; omega)
   clear hi hlt
   have B6 := Aside0.mk (below_step B5.out BL.out)
   have T6 := Aside0.mk (blk_below T5.out BL.out)
   have C6 := Aside0.mk (Kd.C_below C45.out BL.out)
   have zz := cz3 T6.out
   go_wp2_with (first
    | (go_at_call 24; (with_reducible refine (topo_ok_s A5 c5 ls P L A _ C6.out (by have := HL.out; omega) (Hand.Good.below true false HG.out B6.out rfl rfl) HCAN.out HLS.out).mono ?_); rintro e w7 ⟨Y1, y1, Y2, y2, Y3, y3, rfl, R1, R2, R3, hb⟩; have B7 := Aside0.mk (below_step B6.out hb); clear zz; have T7 := Aside0.mk (blk_below T6.out hb); have C7 := Aside0.mk (Kd.C_below C6.out hb); clear hb)
    | ((with_reducible refine gate_dst (N := 8) rfl ?_); refine box_event ?hg (N := 8) ?hd (cs := #[.slice none 0 0, .slice none 0 0, .slice none 0 0]) (t := 26) ?hr ?_; (case hd => rfl); (case hg => rfl); (case hr => first | (go_simp; done) | (go_simp; rfl)); intro g8 hg w8 hbox hb; have B8 := Aside0.mk (below_step B7.out hb); have T8 := Aside0.mk (blk_below T7.out hb); have C8 := Aside0.mk (Kd.C_below C7.out hb); have X8 := Aside0.mk hbox; have G8 := Aside0.mk (show w.heap.size ≤ g8 by rw [hg]; exact below_size B7.out); have N8 := Aside0.mk (show g1 ≠ g8 by rw [hg]; exact Nat.ne_of_lt (blk_lt T7.out)); have H78 := Aside0.mk hb; have GE8 := Aside0.mk (Nat.le_of_eq hg.symm); clear hg hbox hb)
    | ((with_reducible refine gate_ (.store 26 (.tmp 8) (.tmp 50)) rfl ?_); refine Hand.wpList_store_blk (g := g8) (off := 0) rfl rfl 26 (.tmp 8) (.tmp 50) rfl [.slice Y1 P.length y1, .slice Y2 L.length y2, .slice Y3 A.length y3] #[.slice Y1 P.length y1, .slice Y2 L.length y2, .slice Y3 A.length y3] rfl rfl X8.out rfl size26' (show 0 + 3 ≤ 3 by decide) (fun u hu => by simp at hu; rcases hu with rfl | rfl | rfl <;> rfl) rfl (fun w9 hp => ?_); have B9 := Aside0.mk (hp.bl _ B8.out G8.out); have H79 := Aside0.mk (hp.bl _ H78.out GE8.out); have T9 := Aside0.mk (hp.keep T8.out N8.out); have X9 := Aside0.mk hp.box; have C9 := Aside0.mk (Kd.C_below C7.out H79.out); clear hp; have zz := cz3 T9.out; have y_z := cz3 X9.out)
    | (go_at_call 25; (with_reducible refine (crossbucklaw25_sameTopo.calls kS Y1 y1 P Y2 y2 L Y3 y3 A X0 d0 P X1 d1 L X2 d2 A true _ (Kd.C_below R1.out.1 H79.out) R1.out.2 (Kd.C_below R2.out.1 H79.out) R2.out.2 (Kd.C_below R3.out.1 H79.out) R3.out.2 (Kd.C_below HC0.out B9.out) HK0.out (Kd.C_below HC1.out B9.out) HK1.out (Kd.C_below HC2.out B9.out) HK2.out HS.out).mono ?_); rintro e w10 ⟨rfl, hb⟩; have B10 := Aside0.mk (below_step B9.out hb); have C10 := Aside0.mk (Kd.C_below C9.out hb); clear hb; clear zz y_z))
   simp only [HJ.out]
   obtain ⟨i024, hi024, _, hsz24, _⟩ := info_parts info9
   obtain ⟨hcut1, hA1, hC1⟩ := print_take_of (P := Tryd.prog) Value.string (⟨#[]⟩ : ByteArray) 30 9 .i64 Tryd.underlying30 hi024 hsz24 A5 c5 ls (j : Int) (by omega) (by have := HJL.out; omega) K4.out
   obtain ⟨A7, hcut2, hA2, hC2⟩ := print_drop_of (P := Tryd.prog) Value.string (⟨#[]⟩ : ByteArray) 30 9 .i64 Tryd.underlying30 hi024 hsz24 A5 c5 ls (j : Int) (by omega) (by have := HJL.out; omega) K4.out
   simp only [Int.toNat_natCast] at hcut1 hA1 hC1 hcut2 hA2 hC2
   have CD := Aside0.mk (Kd.C_below C10.out (below_drew1 (Below.refl w10.heap.size w10)))
   have CT := Aside0.mk (Kd.C_of_reads (h1 := fun _ => rfl) (hA1 _ (Kd.reads_of_C CD.out)))
   have CR := Aside0.mk (Kd.C_of_reads (h1 := fun _ => rfl) (hA2 _ (Kd.reads_of_C CD.out)))
   have BD := Aside0.mk (below_drew1 B10.out)
   have TL := Aside0.mk (show (ls.take j).length ≤ 300 by rw [List.length_take]; have := HL.out; omega)
   have DL := Aside0.mk (show (ls.drop j).length ≤ 300 by rw [List.length_drop]; have := HL.out; omega)
   have WB := Aside0.mk (show ls.take j ++ [⟨#[110, 111, 116, 104, 105, 110, 103]⟩] ++ ls.drop j = withBad ls j from rfl)
   clear hA1 hA2 hC1 hC2 hi024 hsz24
   generalize ls.take j = lt at hcut1 CT TL WB
   generalize ls.drop j = lr at hcut2 CR DL WB
   generalize c5 - j = c7 at hcut2
   refine start_ (n := 12) (S := fun w' => True) (ds := []) #[false, false, false, false, false, false, false, false, false, false, false, false] (by kernel_rfl) rfl rfl trivial (fun hHeld => ?_)
   refine with_tabW topos_.tab17 topos_.bits17 (fun HT_ HW_ => ?_)
   generalize w10.drew = wd at BD CT CR CD hHeld ⊢
   clear CD
   refine pure_ (i := 1) (N := some 72) (v := ?_) (a' := ?_) #[false, true, false, false, false, false, false, false, false, false, false, false] rfl rfl (any_of HT_.out (by kernel_rfl)) (fun _ _ _ h => h) (Or.inl ⟨by rfl, ?_⟩) ?_ ?_
   rotate_left
   ·intro w'
    go_simp
    with_reducible rfl
   rotate_left
   ·simp only [Act.put, List.setIfInBounds_toArray, List.set_cons_zero, List.set_cons_succ, i64_w, i32_w]
    rfl
   refine pure_ (i := 2) (N := some 73) (v := ?_) (a' := ?_) #[false, true, true, false, false, false, false, false, false, false, false, false] rfl rfl (any_of HT_.out (by kernel_rfl)) (fun _ _ _ h => h) (Or.inl ⟨by rfl, ?_⟩) ?_ ?_
   rotate_left
   ·intro w'
    go_simp
    with_reducible rfl
   rotate_left
   ·simp only [Act.put, List.setIfInBounds_toArray, List.set_cons_zero, List.set_cons_succ, i64_w, i32_w]
    rfl
   refine pure_ (i := 3) (N := some 74) (v := ?_) (a' := ?_) #[false, true, true, true, false, false, false, false, false, false, false, false] rfl rfl (any_of HT_.out (by kernel_rfl)) (fun _ _ _ h => h) (Or.inl ⟨by rfl, ?_⟩) ?_ ?_
   rotate_left
   ·intro w'
    go_simp
    with_reducible rfl
   rotate_left
   ·simp only [Act.put, List.setIfInBounds_toArray, List.set_cons_zero, List.set_cons_succ, i64_w, i32_w]
    rfl
   refine pure_ (i := 7) (N := some 78) (v := ?_) (a' := ?_) #[false, true, true, true, false, false, false, true, false, false, false, false] rfl rfl (any_of HT_.out (by kernel_rfl)) (fun _ _ _ h => h) (Or.inl ⟨by rfl, ?_⟩) ?_ ?_
   rotate_left
   ·intro w'
    go_simp
    with_reducible rfl
   rotate_left
   ·simp only [Act.put, List.setIfInBounds_toArray, List.set_cons_zero, List.set_cons_succ, i64_w, i32_w]
    rfl
   refine pure_ (i := 8) (N := some 79) (v := ?_) (a' := ?_) #[false, true, true, true, false, false, false, true, true, false, false, false] rfl rfl (any_of HT_.out (by kernel_rfl)) (fun _ _ _ h => h) (Or.inl ⟨by rfl, ?_⟩) ?_ ?_
   rotate_left
   ·intro w'
    go_simp
    with_reducible rfl
   rotate_left
   ·simp only [Act.put, List.setIfInBounds_toArray, List.set_cons_zero, List.set_cons_succ, i64_w, i32_w]
    rfl
   refine pure_ (i := 9) (N := some 80) (v := ?_) (a' := ?_) #[false, true, true, true, false, false, false, true, true, true, false, false] rfl rfl (any_of HT_.out (by kernel_rfl)) (fun _ _ _ h => h) (Or.inl ⟨by rfl, ?_⟩) ?_ ?_
   rotate_left
   ·intro w'
    go_simp
    with_reducible rfl
   rotate_left
   ·simp only [Act.put, List.setIfInBounds_toArray, List.set_cons_zero, List.set_cons_succ, i64_w, i32_w]
    rfl
   refine join_ (σ := Value × Value × Nat) 3 #[true, true, true, true, true, true, false, true, true, true, false, false] (fun s_ => [(71, s_.1), (75, s_.2.1), (76, .slice (some ⟨s_.2.2, 0, none⟩) 1 1)]) (fun s_ w' => Kd.R Kd.string 9 w' wd.heap.size (fun _ => True) s_.2.1 lt ∧ w'.heap[s_.2.2]? = some (.cells #[.string ⟨#[110, 111, 116, 104, 105, 110, 103]⟩] 9 (0, 0)) ∧ Below wd.heap.size wd w') ?_ ?_
   rotate_left
   ·intro hCont
    refine two_ (i := 0) (j := 5) (Ni := some 71) (Nj := some 76) #[true, true, true, true, false, false, false, true, true, true, false, false] #[false, true, true, true, false, true, false, true, true, true, false, false] rfl rfl rfl rfl (two_of HT_.out (by kernel_rfl)) (by decide) (by decide) (fun K hK => ?_) (fun K hK => ?_)
    ·skip
     refine Kd.R_lit_step Kd.string _ 9 ?hg (N := 71) ?hd (xs := ([] : List ByteArray)) (inner := []) (ok := fun _ => True) (okp := fun _ => True) ?hr ?hp (fun _ hk => hk) trivial (Below.refl _ _) (Nat.le_refl _) (by simp) ?_
     case hd => rfl
     case hg => rfl
     case hr => first | (go_simp; done) | (go_simp; rfl)
     case hp => exact (Reps.none _ _)
     intro v0 w71 hr0 hb0 hg0 hn0
     have RV := Aside0.mk (Kd.R_lower hr0 (below_size (Below.refl wd.heap.size wd)))
     have BB := Aside0.mk (below_step (Below.refl wd.heap.size wd) hb0)
     clear hr0 hb0 hg0 hn0
     refine hK.out _ _ trivial (fun hHeld => ?_)
     clear hK K
     refine norm_ (a' := ?_) ?_ ?_
     rotate_left
     ·show Act.put _ (some 71) _ = _
      simp only [Act.put, List.setIfInBounds_toArray, List.set_cons_zero, List.set_cons_succ, i64_w, i32_w]
      rfl
     refine two_ (i := 4) (j := 5) (Ni := some 75) (Nj := some 76) #[true, true, true, true, true, false, false, true, true, true, false, false] #[true, true, true, true, false, true, false, true, true, true, false, false] rfl rfl rfl rfl (two_of HT_.out (by kernel_rfl)) (by decide) (by decide) (fun K hK => ?_) (fun K hK => ?_)
     ·skip
      refine Kd.R_append_rows_step Kd.string (w0 := wd) wd.heap.size (by rfl) (.tmp 71) (.tmp 74) 30 9 (.string ⟨#[]⟩) 16 rfl Tryd.underlying30 info9 rfl (by decide) (by omega) v0 [] (lt) _ _ _ (fun _ => True) (fun _ => False) rfl rfl ?aO ?aR (fun _ _ h => h) (fun _ h => h.elim) ?aF ?aB ?aS ?aL ?_
      case aO => exact RV.out
      case aR => exact (Kd.C_below CT.out BB.out)
      case aF => exact (fun _ _ => trivial)
      case aB => exact BB.out
      case aS => exact BB.out.size
      case aL => (have := TL.out; simp only [List.length_append, List.length_cons, List.length_nil]; omega)
      intro v4 w75 ho hb hg hat
      replace RV := Aside0.mk (show Kd.R Kd.string 9 w75 wd.heap.size (fun _ => True) v4 (lt) from ho)
      replace BB := Aside0.mk hb
      clear ho hb hg hat
      refine hK.out _ _ trivial (fun hHeld => ?_)
      clear hK K
      refine norm_ (a' := ?_) ?_ ?_
      rotate_left
      ·show Act.put _ (some 75) _ = _
       simp only [Act.put, List.setIfInBounds_toArray, List.set_cons_zero, List.set_cons_succ, i64_w, i32_w]
       rfl
      refine one_ (i := 5) (N := some 76) #[true, true, true, true, true, true, false, true, true, true, false, false] rfl rfl (one_of HT_.out (by kernel_rfl)) (by decide) (fun K hK => ?_)
      refine lit_step ?hg (N := 76) ?hd (cs := #[.string ⟨#[110, 111, 116, 104, 105, 110, 103]⟩]) (t := 9) (n := 1) ?hr ?_
      case hd => rfl
      case hg => rfl
      case hr => first | (go_simp; done) | (go_simp; rfl)
      intro b5 hb5 w76 hx5 hb
      have XB := Aside0.mk hx5
      have NB := Aside0.mk (show some b5 ≠ v4.ownBlock from fun e => by have := Kd.R_lt RV.out b5 e.symm; omega)
      replace RV := Aside0.mk (Kd.R_below RV.out hb)
      replace BB := Aside0.mk (below_step BB.out hb)
      clear hb5 hx5 hb
      refine hK.out _ _ trivial (fun hHeld => ?_)
      clear hK K
      refine norm_ (a' := ?_) ?_ ?_
      rotate_left
      ·show Act.put _ (some 76) _ = _
       simp only [Act.put, List.setIfInBounds_toArray, List.set_cons_zero, List.set_cons_succ, i64_w, i32_w]
       rfl
      exact norm_ (by simp only [putAll, Act.put, List.setIfInBounds_toArray, List.set_cons_zero, List.set_cons_succ]) (hCont (v0, v4, b5) _ ⟨RV.out, XB.out, BB.out⟩)
     ·skip
      refine lit_step ?hg (N := 76) ?hd (cs := #[.string ⟨#[110, 111, 116, 104, 105, 110, 103]⟩]) (t := 9) (n := 1) ?hr ?_
      case hd => rfl
      case hg => rfl
      case hr => first | (go_simp; done) | (go_simp; rfl)
      intro b5 hb5 w76 hx5 hb
      have XB := Aside0.mk hx5
      have NB := Aside0.mk (show some b5 ≠ v0.ownBlock from fun e => by have := Kd.R_lt RV.out b5 e.symm; omega)
      replace RV := Aside0.mk (Kd.R_below RV.out hb)
      replace BB := Aside0.mk (below_step BB.out hb)
      clear hb5 hx5 hb
      refine hK.out _ _ trivial (fun hHeld => ?_)
      clear hK K
      refine norm_ (a' := ?_) ?_ ?_
      rotate_left
      ·show Act.put _ (some 76) _ = _
       simp only [Act.put, List.setIfInBounds_toArray, List.set_cons_zero, List.set_cons_succ, i64_w, i32_w]
       rfl
      refine one_ (i := 4) (N := some 75) #[true, true, true, true, true, true, false, true, true, true, false, false] rfl rfl (one_of HT_.out (by kernel_rfl)) (by decide) (fun K hK => ?_)
      refine Kd.R_append_rows_step Kd.string (w0 := wd) wd.heap.size (by rfl) (.tmp 71) (.tmp 74) 30 9 (.string ⟨#[]⟩) 16 rfl Tryd.underlying30 info9 rfl (by decide) (by omega) v0 [] (lt) _ _ _ (fun _ => True) (fun _ => False) rfl rfl ?aO ?aR (fun _ _ h => h) (fun _ h => h.elim) ?aF ?aB ?aS ?aL ?_
      case aO => exact RV.out
      case aR => exact (Kd.C_below CT.out BB.out)
      case aF => exact (fun _ _ => trivial)
      case aB => exact BB.out
      case aS => exact BB.out.size
      case aL => (have := TL.out; simp only [List.length_append, List.length_cons, List.length_nil]; omega)
      intro v4 w75 ho hb hg hat
      replace RV := Aside0.mk (show Kd.R Kd.string 9 w75 wd.heap.size (fun _ => True) v4 (lt) from ho)
      replace BB := Aside0.mk hb
      replace XB := Aside0.mk (blk_grown XB.out hg NB.out)
      clear ho hb hg hat
      refine hK.out _ _ trivial (fun hHeld => ?_)
      clear hK K
      refine norm_ (a' := ?_) ?_ ?_
      rotate_left
      ·show Act.put _ (some 75) _ = _
       simp only [Act.put, List.setIfInBounds_toArray, List.set_cons_zero, List.set_cons_succ, i64_w, i32_w]
       rfl
      exact norm_ (by simp only [putAll, Act.put, List.setIfInBounds_toArray, List.set_cons_zero, List.set_cons_succ]) (hCont (v0, v4, b5) _ ⟨RV.out, XB.out, BB.out⟩)
    ·skip
     refine lit_step ?hg (N := 76) ?hd (cs := #[.string ⟨#[110, 111, 116, 104, 105, 110, 103]⟩]) (t := 9) (n := 1) ?hr ?_
     case hd => rfl
     case hg => rfl
     case hr => first | (go_simp; done) | (go_simp; rfl)
     intro b5 hb5 w76 hx5 hb
     have XB := Aside0.mk hx5
     have BB := Aside0.mk (below_step (Below.refl wd.heap.size wd) hb)
     clear hb5 hx5 hb
     refine hK.out _ _ trivial (fun hHeld => ?_)
     clear hK K
     refine norm_ (a' := ?_) ?_ ?_
     rotate_left
     ·show Act.put _ (some 76) _ = _
      simp only [Act.put, List.setIfInBounds_toArray, List.set_cons_zero, List.set_cons_succ, i64_w, i32_w]
      rfl
     refine one_ (i := 0) (N := some 71) #[true, true, true, true, false, true, false, true, true, true, false, false] rfl rfl (one_of HT_.out (by kernel_rfl)) (by decide) (fun K hK => ?_)
     refine Kd.R_lit_step Kd.string _ 9 ?hg (N := 71) ?hd (xs := ([] : List ByteArray)) (inner := []) (ok := fun _ => True) (okp := fun _ => True) ?hr ?hp (fun _ hk => hk) trivial (Below.refl _ _) (Nat.le_refl _) (by simp) ?_
     case hd => rfl
     case hg => rfl
     case hr => first | (go_simp; done) | (go_simp; rfl)
     case hp => exact (Reps.none _ _)
     intro v0 w71 hr0 hb0 hg0 hn0
     have RV := Aside0.mk (Kd.R_lower hr0 (below_size BB.out))
     have NB := Aside0.mk (show some b5 ≠ v0.ownBlock by obtain ⟨b', e', hle⟩ := hn0; rw [e']; intro e; have := blk_lt XB.out; injection e with e; omega)
     replace XB := Aside0.mk (blk_below XB.out hb0)
     replace BB := Aside0.mk (below_step BB.out hb0)
     clear hr0 hb0 hg0 hn0
     refine hK.out _ _ trivial (fun hHeld => ?_)
     clear hK K
     refine norm_ (a' := ?_) ?_ ?_
     rotate_left
     ·show Act.put _ (some 71) _ = _
      simp only [Act.put, List.setIfInBounds_toArray, List.set_cons_zero, List.set_cons_succ, i64_w, i32_w]
      rfl
     refine one_ (i := 4) (N := some 75) #[true, true, true, true, true, true, false, true, true, true, false, false] rfl rfl (one_of HT_.out (by kernel_rfl)) (by decide) (fun K hK => ?_)
     refine Kd.R_append_rows_step Kd.string (w0 := wd) wd.heap.size (by rfl) (.tmp 71) (.tmp 74) 30 9 (.string ⟨#[]⟩) 16 rfl Tryd.underlying30 info9 rfl (by decide) (by omega) v0 [] (lt) _ _ _ (fun _ => True) (fun _ => False) rfl rfl ?aO ?aR (fun _ _ h => h) (fun _ h => h.elim) ?aF ?aB ?aS ?aL ?_
     case aO => exact RV.out
     case aR => exact (Kd.C_below CT.out BB.out)
     case aF => exact (fun _ _ => trivial)
     case aB => exact BB.out
     case aS => exact BB.out.size
     case aL => (have := TL.out; simp only [List.length_append, List.length_cons, List.length_nil]; omega)
     intro v4 w75 ho hb hg hat
     replace RV := Aside0.mk (show Kd.R Kd.string 9 w75 wd.heap.size (fun _ => True) v4 (lt) from ho)
     replace BB := Aside0.mk hb
     replace XB := Aside0.mk (blk_grown XB.out hg NB.out)
     clear ho hb hg hat
     refine hK.out _ _ trivial (fun hHeld => ?_)
     clear hK K
     refine norm_ (a' := ?_) ?_ ?_
     rotate_left
     ·show Act.put _ (some 75) _ = _
      simp only [Act.put, List.setIfInBounds_toArray, List.set_cons_zero, List.set_cons_succ, i64_w, i32_w]
      rfl
     exact norm_ (by simp only [putAll, Act.put, List.setIfInBounds_toArray, List.set_cons_zero, List.set_cons_succ]) (hCont (v0, v4, b5) _ ⟨RV.out, XB.out, BB.out⟩)
   rintro ⟨v0, v4, b5⟩ wj ⟨hj1, hj2, hj3⟩
   have hHeld := trivial
   have RV := Aside0.mk hj1
   have XB := Aside0.mk hj2
   have BB := Aside0.mk hj3
   clear hj1 hj2 hj3
   refine norm_ (a' := ?_) ?_ ?_
   rotate_left
   ·simp only [putAll, Act.put, List.setIfInBounds_toArray, List.set_cons_zero, List.set_cons_succ]
    rfl
   refine one_ (i := 6) (N := some 77) #[true, true, true, true, true, true, true, true, true, true, false, false] rfl rfl (one_of HT_.out (by kernel_rfl)) (by decide) (fun K hK => ?_)
   refine Kd.R_append_rows_step Kd.string (w0 := wd) wd.heap.size (by rfl) (.tmp 75) (.tmp 76) 30 9 (.string ⟨#[]⟩) 16 rfl Tryd.underlying30 info9 rfl (by decide) (by omega) v4 (lt) [⟨#[110, 111, 116, 104, 105, 110, 103]⟩] _ _ _ (fun _ => True) (fun _ => False) rfl rfl ?aO ?aR (fun _ _ h => h) (fun _ h => h.elim) ?aF ?aB ?aS ?aL ?_
   case aO => exact RV.out
   case aR => exact ((Kd.R_reads' (R_texts (base := 0) (xs := [⟨#[110, 111, 116, 104, 105, 110, 103]⟩]) XB.out (Nat.zero_le _) (show 1 ≤ 1000 by decide) (show 0 < 1 by decide))).2.2)
   case aF => exact (fun _ _ => trivial)
   case aB => exact BB.out
   case aS => exact BB.out.size
   case aL => (have := TL.out; show (lt.length + 1) * 16 ≤ _; omega)
   intro v6 w77 ho hb hg hat
   replace RV := Aside0.mk (show Kd.R Kd.string 9 w77 wd.heap.size (fun _ => True) v6 (lt ++ [⟨#[110, 111, 116, 104, 105, 110, 103]⟩]) from ho)
   replace BB := Aside0.mk hb
   clear ho hb hg hat
   refine hK.out _ _ trivial (fun hHeld => ?_)
   clear hK K
   refine norm_ (a' := ?_) ?_ ?_
   rotate_left
   ·show Act.put _ (some 77) _ = _
    simp only [Act.put, List.setIfInBounds_toArray, List.set_cons_zero, List.set_cons_succ, i64_w, i32_w]
    rfl
   refine one_ (i := 10) (N := some 81) #[true, true, true, true, true, true, true, true, true, true, true, false] rfl rfl (one_of HT_.out (by kernel_rfl)) (by decide) (fun K hK => ?_)
   refine Kd.R_append_rows_step Kd.string (w0 := wd) wd.heap.size (by rfl) (.tmp 77) (.tmp 80) 30 9 (.string ⟨#[]⟩) 16 rfl Tryd.underlying30 info9 rfl (by decide) (by omega) v6 (lt ++ [⟨#[110, 111, 116, 104, 105, 110, 103]⟩]) (lr) _ _ _ (fun _ => True) (fun _ => False) rfl rfl ?aO ?aR (fun _ _ h => h) (fun _ h => h.elim) ?aF ?aB ?aS ?aL ?_
   case aO => exact RV.out
   case aR => exact (Kd.C_below CR.out BB.out)
   case aF => exact (fun _ _ => trivial)
   case aB => exact BB.out
   case aS => exact BB.out.size
   case aL => (have := TL.out; have := DL.out; simp only [List.length_append, List.length_cons, List.length_nil]; omega)
   intro v10 w81 ho hb hg hat
   replace RV := Aside0.mk (show Kd.R Kd.string 9 w81 wd.heap.size (fun _ => True) v10 (lt ++ [⟨#[110, 111, 116, 104, 105, 110, 103]⟩] ++ lr) from ho)
   replace BB := Aside0.mk hb
   clear ho hb hg hat
   rw [WB.out] at RV
   obtain ⟨Ab, cb, eb⟩ := Kd.R_slice RV.out
   subst eb
   refine hK.out _ _ trivial (fun hHeld => ?_)
   clear hK K
   refine norm_ (a' := ?_) ?_ ?_
   rotate_left
   ·show Act.put _ (some 81) _ = _
    simp only [Act.put, List.setIfInBounds_toArray, List.set_cons_zero, List.set_cons_succ, i64_w, i32_w]
    rfl
   refine pure_ (i := 11) (N := some 12) (v := ?_) (a' := ?_) #[true, true, true, true, true, true, true, true, true, true, true, true] rfl rfl (any_of HT_.out (by kernel_rfl)) (fun _ _ _ h => h) (Or.inl ⟨by rfl, ?_⟩) ?_ ?_
   rotate_left
   ·intro w'
    go_simp
    with_reducible rfl
   rotate_left
   ·simp only [Act.put, List.setIfInBounds_toArray, List.set_cons_zero, List.set_cons_succ, i64_w, i32_w]
    rfl
   refine done_ (done_of HT_.out (by kernel_rfl)) ?_
   have BX := Aside0.mk (below_step BD.out BB.out)
   obtain ⟨bs, hbs⟩ : ∃ bs, bs = withBad ls j := ⟨_, rfl⟩
   rw [← hbs] at RV
   have HBS := Aside0.mk hbs
   have CB := Aside0.mk (Kd.R_reads' RV.out).2.2
   simp only [← hbs]
   clear hbs
   go_wp2_with (first
    | (go_at_call 24; (with_reducible refine (topo_bad_s Ab cb ls bs j P L A _ CB.out HBS.out (by have := HL.out; omega) HJL.out (Hand.Good.below true false HG.out BX.out rfl rfl) HCAN.out HLS.out).mono ?_); rintro e w20 ⟨rfl, hb⟩; have B20 := Aside0.mk (below_step BX.out hb); clear hb)
    | ((with_reducible refine gate_dst (N := 13) rfl ?_); refine box_event ?hg (N := 13) ?hd (cs := #[.slice none 0 0, .slice none 0 0, .slice none 0 0]) (t := 26) ?hr ?_; (case hd => rfl); (case hg => rfl); (case hr => first | (go_simp; done) | (go_simp; rfl)); intro g13 hg w21 hbox hb; have B21 := Aside0.mk (below_step B20.out hb); have X21 := Aside0.mk hbox; have G21 := Aside0.mk (show w.heap.size ≤ g13 by rw [hg]; exact below_size B20.out); clear hg hbox hb)
    | ((with_reducible refine gate_ (.store 26 (.tmp 13) (.tmp 85)) rfl ?_); refine Hand.wpList_store_blk (g := g13) (off := 0) rfl rfl 26 (.tmp 13) (.tmp 85) rfl [.slice none 0 0, .slice none 0 0, .slice none 0 0] #[.slice none 0 0, .slice none 0 0, .slice none 0 0] rfl rfl X21.out rfl size26' (show 0 + 3 ≤ 3 by decide) (fun u hu => by simp at hu; rcases hu with rfl | rfl | rfl <;> rfl) rfl (fun w22 hp => ?_); have B22 := Aside0.mk (hp.bl _ B21.out G21.out); have X22 := Aside0.mk hp.box; clear hp)
    | (go_at_call 21; (with_reducible refine (crossbucklaw25_awake.calls kA true _ (Hand.Good.below true false HG.out B22.out rfl rfl) HAW.out).mono ?_); rintro e w23 ⟨rfl, hb⟩; have B23 := Aside0.mk (below_step B22.out hb); have X23 := Aside0.mk (blk_below X22.out hb); have y0 : w23.cell? ⟨g13, 0, none⟩ = some (.slice none 0 0) := (blk_cell X23.out 0).trans rfl; clear hb))
   go_ret
   exact ⟨rfl, B23.out⟩


open Go.Proofs.YtloclimoffhbhaaDoor.Scr Go.Proofs.YtloclimoffhbhaaDoor.Facts Go.Proofs.YtloclimoffhbhaaDoor.Bits
/-! ### crossbucklaw25_ScriptTopos: function 3 (by hand) -/
def bdAB (x : S130) : Bool := decide (0 ≤ x.f4.f0.f0 ∧ x.f4.f0.f0 < 4294967296) && decide (0 ≤ x.f4.f1.f0 ∧ x.f4.f1.f0 < 4294967296) && decide (0 ≤ x.f4.f3.f0 ∧ x.f4.f3.f0 ≤ 65535) && decide (0 ≤ x.f4.f3.f1 ∧ x.f4.f3.f1 ≤ 65535) && decide (0 ≤ x.f4.f4.f0 ∧ x.f4.f4.f0 ≤ 65535) && decide (0 ≤ x.f4.f4.f1 ∧ x.f4.f4.f1 ≤ 65535)
theorem bdAB_iff {x : S130} : bdAB x = true ↔ bdA x := by
 unfold bdAB
 simp only [Bool.and_eq_true, decide_eq_true_eq]
 exact ⟨fun ⟨⟨⟨⟨⟨a, b⟩, c⟩, d⟩, e⟩, f⟩ => ⟨a, b, c, d, e, f⟩, fun h => ⟨⟨⟨⟨⟨h.a, h.b⟩, h.p5⟩, h.p6⟩, h.p7⟩, h.p8⟩⟩
def crossbucklaw25_ScriptTopos.f (P : List Int) (L : List S133) (A : List S130) (a : Int) : Option Bool := if (A.all bdAB && decide (0 ≤ a ∧ a ≤ 255)) = true then some true else none
theorem scriptTopos_at (X0 : Option Addr) (d0 : Nat) (P : List Int) (X1 : Option Addr) (d1 : Nat) (L : List S133) (X2 : Option Addr) (d2 : Nat) (A : List S130) (a : Int) (w : World) (hC0 : Kd.C (Kd.int .i64) w X0 P.length P) (hk0 : P.length ≤ d0) (hC1 : Kd.C k133 w X1 L.length L) (hk1 : L.length ≤ d1) (hC2 : Kd.C k130 w X2 A.length A) (hk2 : A.length ≤ d2) (hG : Hand.Good true true w) (hb : ∀ x ∈ A, bdA x) (ha0 : 0 ≤ a) (ha1 : a ≤ 255) :
  Calls Tryd.prog 3 #[.agg #[.slice X0 P.length d0, .slice X1 L.length d1, .slice X2 A.length d2], .int .u8 a] w fun e w' => e = .returned (.bool true) ∧ Below w.heap.size w w' := by
 obtain ⟨kA, hA⟩ := awake25_ev.rounds
 have hli := light_eq P L A
 by_cases hl : P.length ≤ 40 ∧ L.length ≤ 100 ∧ A.length ≤ 60
 case neg =>
  rw [decide_eq_false hl] at hli
  exact topos_heavy kA X0 d0 P X1 d1 L X2 d2 A a w hC0 hk0 hC1 hk1 hC2 hk2 hG hA hli
 rw [decide_eq_true hl] at hli
 obtain ⟨l0, l1, l2⟩ := hl
 obtain ⟨v, hv, hok⟩ := topo_check P L A l0 l1 l2 hb
 obtain ⟨kC, hv⟩ := hv.rounds
 by_cases h0 : v = 0
 case neg => exact topos_wrong kA kC v X0 d0 P X1 d1 L X2 d2 A a w hC0 hk0 hC1 hk1 hC2 hk2 hG hA hli hv h0
 subst h0
 obtain ⟨f1, f2, hp, hk, ha⟩ := hok rfl
 have hCan : CanT P L A := by
  refine ⟨⟨by omega, by omega, by omega⟩, fun n hn => ?_, fun x hx => ?_, fun x hx => ?_⟩
  ·have := hp n hn
   exact ⟨this.1, by omega⟩
  ·obtain ⟨g1, g2⟩ := hk x hx
   have s1 := g1.small f1 hp
   have s2 := g2.small f1 hp
   exact ⟨s1.1, s1.2, s2.1, s2.2⟩
  ·obtain ⟨g1, g2⟩ := ha x hx
   have s1 := g1.small f1 hp
   exact ⟨s1.1, s1.2, hb x hx, g2⟩
 obtain ⟨kP, h1⟩ := (printTopo_ev hCan).rounds
 obtain ⟨kR, h2⟩ := (refTopo_ev hCan).rounds
 obtain ⟨kS, h3⟩ := (sameTopo_ev P L A (by omega) (by omega) (by omega)).rounds
 have hlen : ((linesT P L A).map B).length ≤ 300 := by rw [List.length_map, linesT_len]; omega
 exact topos_right kA kC kP kR kS _ X0 d0 P X1 d1 L X2 d2 A a w hC0 hk0 hC1 hk1 hC2 hk2 hG hA hli hv h1 h2 h3 hCan rfl hlen ha0 ha1
theorem crossbucklaw25_ScriptTopos.calls (X0 : Option Addr) (d0 : Nat) (P : List Int) (X1 : Option Addr) (d1 : Nat) (L : List S133) (X2 : Option Addr) (d2 : Nat) (A : List S130) (a : Int) (r : Bool) (w : World) (hC0 : Kd.C (Kd.int .i64) w X0 P.length P) (hk0 : P.length ≤ d0) (hC1 : Kd.C k133 w X1 L.length L) (hk1 : L.length ≤ d1) (hC2 : Kd.C k130 w X2 A.length A) (hk2 : A.length ≤ d2) (hG : Hand.Good true true w) (h : crossbucklaw25_ScriptTopos.f P L A a = some r) :
  Calls Tryd.prog 3 #[.agg #[.slice X0 P.length d0, .slice X1 L.length d1, .slice X2 A.length d2], .int .u8 a] w fun e w' => e = .returned (.bool r) ∧ Below w.heap.size w w' := by
 unfold crossbucklaw25_ScriptTopos.f at h
 by_cases hb' : (A.all bdAB && decide (0 ≤ a ∧ a ≤ 255)) = true
 case neg => rw [if_neg hb'] at h; cases h
 rw [if_pos hb'] at h
 obtain rfl := Option.some.inj h
 rw [Bool.and_eq_true, decide_eq_true_eq] at hb'
 exact scriptTopos_at X0 d0 P X1 d1 L X2 d2 A a w hC0 hk0 hC1 hk1 hC2 hk2 hG (fun x hx => bdAB_iff.1 (List.all_eq_true.1 hb'.1 x hx)) hb'.2.1 hb'.2.2

end Go.Proofs.YtloclimoffhbhaaDoor.PSto
