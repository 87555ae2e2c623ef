-- Walks by hand.
-- halved
import Derived.Test.YtloclimoffhbhaaDoorSq6
import Derived.Test.YtloclimoffhbhaaDoorPSrex201
namespace Go.Proofs.YtloclimoffhbhaaDoor.PSre
open Go.RowKit Go.Proofs.YtloclimoffhbhaaDoorW.PrintWords Go.Proofs.YtloclimoffhbhaaDoorW.PrintLast Go.Proofs.YtloclimoffhbhaaDoorW.PrintMore Go.Proofs.YtloclimoffhbhaaDoorW.PrintSq
attribute [local go_sem] max2_int min2_int max_two min_two max_three min_three max_four min_four   -- for this text's walks alone
set_option linter.unusedVariables false
set_option linter.unusedSimpArgs false

open Go.Proofs.YtloclimoffhbhaaDoor.Scr Go.Proofs.YtloclimoffhbhaaDoor.Facts Go.Proofs.YtloclimoffhbhaaDoor.Bits
theorem join_drop_le : ∀ (n : Nat) (ws : List (List UInt8)), (Lib.join (ws.drop n) [32]).length ≤ (Lib.join ws [32]).length
 | 0, _ => Nat.le_refl _
 | _ + 1, [] => Nat.le_refl _
 | n + 1, [x] => by simp [Lib.join_nil]
 | n + 1, x :: y :: r => by
  have h := join_drop_le n (y :: r)
  rw [join_two_more, List.length_append, List.length_cons]
  show (Lib.join ((y :: r).drop n) [32]).length ≤ _
  omega
theorem join_some {ws : List ByteArray} (h : (Lib.join (ws.map (·.data.toList)) [32]).length ≤ 1000) (hl : ws.length ≤ 1001) : strings_Join.f ws ⟨#[32]⟩ = some (B (Lib.join (ws.map (·.data.toList)) [32])) := by
 unfold strings_Join.f
 rw [show (⟨#[32]⟩ : ByteArray).data.toList = [32] from rfl, if_pos ⟨by omega, by omega⟩]
 rfl
theorem rd9 {a b c d e f g h i : ByteArray} : rdOf ByteArray.empty [a, b, c, d, e, f, g, h, i] 2 = c ∧ rdOf ByteArray.empty [a, b, c, d, e, f, g, h, i] 3 = d := ⟨rfl, rfl⟩
/-- An entry's words: may they be, as to the third and the fourth? -/
theorem ace_ways (a b c d e f g h i : ByteArray) : ∃ x : Bool, (∀ k, script_ace.f k [a, b, c, d, e, f, g, h, i] = script_ace.j0 k [a, b, c, d, e, f, g, h, i] x) ∧ (x = false → ∃ u v, c.toList = wayT u ∧ d.toList = whatT v) ∧ ((∃ u v, c.toList = wayT u ∧ d.toList = whatT v) → x = false) := by
 have hl : (([a, b, c, d, e, f, g, h, i] : List ByteArray).length : Int) = 9 := rfl
 unfold script_ace.f
 simp only [hl, rd9.1, rd9.2, if_true, show ((2 : Int) < 9) = True from by decide, show ((3 : Int) < 9) = True from by decide]
 have hd : ∃ y : Bool, (∀ k, (if d.toList = ([112, 101, 114, 109, 105, 116] : List UInt8) then script_ace.j0 k [a, b, c, d, e, f, g, h, i] false else script_ace.j0 k [a, b, c, d, e, f, g, h, i] (d.toList != ([100, 101, 110, 121] : List UInt8))) = script_ace.j0 k [a, b, c, d, e, f, g, h, i] y) ∧ (y = false → ∃ v, d.toList = whatT v) ∧ ((∃ v, d.toList = whatT v) → y = false) := by
  by_cases q : d.toList = [112, 101, 114, 109, 105, 116]
  ·exact ⟨false, fun k => by rw [if_pos q], fun _ => ⟨true, q⟩, fun _ => rfl⟩
  ·refine ⟨d.toList != [100, 101, 110, 121], fun k => by rw [if_neg q], fun h => ⟨false, ?_⟩, ?_⟩
   ·simpa [whatT] using h
   ·rintro ⟨v, hv⟩
    cases v with
    | true => exact absurd hv q
    | false => rw [hv]; rfl
 obtain ⟨y, y1, y2, y3⟩ := hd
 by_cases p : c.toList = [105, 110]
 ·refine ⟨y, fun k => by rw [if_pos p]; exact y1 k, fun h => ?_, fun ⟨u, v, _, hv⟩ => y3 ⟨v, hv⟩⟩
  obtain ⟨v, hv⟩ := y2 h
  exact ⟨true, v, p, hv⟩
 by_cases p2 : c.toList = [111, 117, 116]
 ·refine ⟨y, fun k => by rw [if_neg p, if_pos p2]; exact y1 k, fun h => ?_, fun ⟨u, v, _, hv⟩ => y3 ⟨v, hv⟩⟩
  obtain ⟨v, hv⟩ := y2 h
  exact ⟨false, v, p2, hv⟩
 ·refine ⟨true, fun k => by rw [if_neg p, if_neg p2], fun h => (by cases h), ?_⟩
  rintro ⟨u, v, hu, _⟩
  cases u with
  | true => exact absurd hu p
  | false => exact absurd hu p2
theorem way_eq {c : ByteArray} {u : Bool} (h : c.toList = wayT u) : (c.toList == ([105, 110] : List UInt8)) = u := by
 rw [h]
 cases u <;> rfl
theorem what_eq {c : ByteArray} {u : Bool} (h : c.toList = whatT u) : (c.toList == ([112, 101, 114, 109, 105, 116] : List UInt8)) = u := by
 rw [h]
 cases u <;> rfl
/-- Nine words of an entry, read. -/
theorem ace_go {a b c d e f g h i tf : ByteArray} {n0 n1 : Int} {u v : Bool} {f0 f1 f2 f3 f4 f5 f6 f7 f8 er : Int} (hc : c.toList = wayT u) (hd : d.toList = whatT v) (hn : Ev (fun k => script_numbers.f k [a, b]) ([n0, n1], 0)) (hj : strings_Join.f [e, f, g, h, i] ⟨#[32]⟩ = some tf)
  (hf : Ev (fun k => filter_Parse.f k tf) (f0, f1, f2, f3, f4, f5, f6, f7, f8, er)) : Ev (fun k => script_ace.f k [a, b, c, d, e, f, g, h, i]) (n0, n1, u, v, f0, f1, f2, f3, f4, f5, f6, f7, f8, er) := by
 obtain ⟨x, h1, _, h3⟩ := ace_ways a b c d e f g h i
 obtain rfl := h3 ⟨u, v, hc, hd⟩
 refine Ev.congr h1 (Ev.step (fun k => by rw [script_ace.j0, if_neg (by decide), if_pos (show (2 : Int) ≤ (([a, b, c, d, e, f, g, h, i] : List ByteArray).length : Int) from (by decide : (2 : Int) ≤ 9))]; rfl) (Ev.bind hn ?_))
 have hl : (([a, b, c, d, e, f, g, h, i] : List ByteArray).length : Int) = 9 := rfl
 have hl2 : (([n0, n1] : List Int).length : Int) = 2 := rfl
 have hdr : ([a, b, c, d, e, f, g, h, i] : List ByteArray).drop 4 = [e, f, g, h, i] := rfl
 simp only [if_true, hl, hl2, hdr, hj, Option.bind_some, rd9.1, rd9.2, way_eq hc, what_eq hd, show ((4 : Int) ≤ 9) = True from by decide, show ((0 : Int) < 2) = True from by decide, show ((1 : Int) < 2) = True from by decide, show ((2 : Int) < 9) = True from by decide, show ((3 : Int) < 9) = True from by decide]
 exact Ev.bind hf (Ev.now _)
theorem ace_numbad {a b c d e f g h i : ByteArray} {ns : List Int} {er : Int} {u v : Bool} (hc : c.toList = wayT u) (hd : d.toList = whatT v) (hn : Ev (fun k => script_numbers.f k [a, b]) (ns, er)) (he : er ≠ 0) : Ev (fun k => script_ace.f k [a, b, c, d, e, f, g, h, i]) (0, 0, false, false, 0, 0, 0, 0, 0, 0, 0, 0, 0, er) := by
 obtain ⟨x, h1, _, h3⟩ := ace_ways a b c d e f g h i
 obtain rfl := h3 ⟨u, v, hc, hd⟩
 refine Ev.congr h1 (Ev.step (fun k => by rw [script_ace.j0, if_neg (by decide), if_pos (show (2 : Int) ≤ (([a, b, c, d, e, f, g, h, i] : List ByteArray).length : Int) from (by decide : (2 : Int) ≤ 9))]; rfl) (Ev.bind hn ?_))
 simp only [if_neg he]
 exact Ev.now _
theorem ace_len {ws : List ByteArray} (h : ws.length ≠ 9) : Ev (fun k => script_ace.f k ws) (0, 0, false, false, 0, 0, 0, 0, 0, 0, 0, 0, 0, 6) := by
 unfold script_ace.f
 simp only [if_neg (show ¬ (ws.length : Int) = 9 by omega)]
 exact Ev.step (f := fun _ => some (0, 0, false, false, 0, 0, 0, 0, 0, 0, 0, 0, 0, 6)) (fun k => by rw [script_ace.j0, if_pos rfl]) (Ev.now _)
theorem ace_all {ws : List ByteArray} (hsz : (Lib.join (ws.map (·.data.toList)) [32]).length ≤ 1000) : ∃ (x : S130) (er : Int), Ev (fun k => script_ace.f k ws) (x.f0, x.f1, x.f2, x.f3, x.f4.f0.f0, x.f4.f0.f1, x.f4.f1.f0, x.f4.f1.f1, x.f4.f2, x.f4.f3.f0, x.f4.f3.f1, x.f4.f4.f0, x.f4.f4.f1, er) ∧
  (er = 0 → small x.f0 ∧ small x.f1 ∧ bdA x ∧ rightA x = true ∧ Lib.join (ws.map (·.data.toList)) [32] = D x.f0.toNat ++ 32 :: (D x.f1.toNat ++ 32 :: (wayT x.f2 ++ 32 :: (whatT x.f3 ++ 32 :: fltA x)))) := by
 by_cases hl : ws.length = 9
 case neg => exact ⟨⟨0, 0, false, false, ⟨⟨0, 0⟩, ⟨0, 0⟩, 0, ⟨0, 0⟩, ⟨0, 0⟩⟩⟩, 6, ace_len hl, fun h => absurd h (by decide)⟩
 match ws, hl, hsz with
 | [a, b, c, d, e, f, g, h, i], _, hsz =>
  obtain ⟨x, h1, h2, h3⟩ := ace_ways a b c d e f g h i
  cases x with
  | true => exact ⟨⟨0, 0, false, false, ⟨⟨0, 0⟩, ⟨0, 0⟩, 0, ⟨0, 0⟩, ⟨0, 0⟩⟩⟩, 6, Ev.congr h1 (Ev.step (f := fun _ => some (0, 0, false, false, 0, 0, 0, 0, 0, 0, 0, 0, 0, 6)) (fun k => by rw [script_ace.j0, if_pos rfl]) (Ev.now _)), fun h => absurd h (by decide)⟩
  | false =>
   obtain ⟨u, v, hc, hd⟩ := h2 rfl
   obtain ⟨ns, er, hn, _, hok⟩ := numbers_all [a, b] (by simp)
   by_cases q : er = 0
   case neg => exact ⟨⟨0, 0, false, false, ⟨⟨0, 0⟩, ⟨0, 0⟩, 0, ⟨0, 0⟩, ⟨0, 0⟩⟩⟩, er, ace_numbad hc hd hn q, fun h => absurd h q⟩
   subst q
   obtain ⟨hs, hw⟩ := hok rfl
   have hlen := congrArg List.length hw
   rw [List.length_map] at hlen
   match ns, hlen, hs, hw, hn with
   | [n0, n1], _, hs, hw, hn =>
    simp only [List.map_cons, List.map_nil, List.cons.injEq, and_true] at hw
    have hj5 : (Lib.join ([e, f, g, h, i].map (·.data.toList)) [32]).length ≤ 1000 := Nat.le_trans (join_drop_le 4 ([a, b, c, d, e, f, g, h, i].map (·.data.toList))) hsz
    have hj := join_some hj5 (by simp)
    have hsz5 : (B (Lib.join ([e, f, g, h, i].map (·.data.toList)) [32])).size ≤ 1000 := by rw [B_size]; exact hj5
    obtain ⟨f0, f1, f2, f3, f4, f5, f6, f7, f8, er, hf, hg⟩ := filter_all hsz5
    refine ⟨⟨n0, n1, u, v, ⟨⟨f0, f1⟩, ⟨f2, f3⟩, f4, ⟨f5, f6⟩, ⟨f7, f8⟩⟩⟩, er, ace_go hc hd hn hj hf, fun h0 => ?_⟩
    obtain ⟨hb, hr, ht⟩ := hg h0
    refine ⟨hs n0 (by simp), hs n1 (by simp), hb, hr, ?_⟩
    have e5 : Lib.join ([e, f, g, h, i].map (·.data.toList)) [32] = fT f0 f1 f2 f3 f4 f5 f6 f7 f8 := by
     have := congrArg (fun b : ByteArray => b.data.toList) ht
     exact this
    have ec : c.data.toList = wayT u := by rw [← ByteArray.toList_eq]; exact hc
    have ed : d.data.toList = whatT v := by rw [← ByteArray.toList_eq]; exact hd
    show Lib.join (a.data.toList :: b.data.toList :: c.data.toList :: d.data.toList :: ([e, f, g, h, i].map (·.data.toList))) [32] = _
    rw [hw.1, hw.2, ec, ed, join_two_more, join_two_more, join_two_more]
    show _ ++ 32 :: (_ ++ 32 :: (_ ++ 32 :: Lib.join (whatT v :: e.data.toList :: [f, g, h, i].map (·.data.toList)) [32])) = _
    rw [join_two_more]
    show _ ++ 32 :: (_ ++ 32 :: (_ ++ 32 :: (_ ++ 32 :: Lib.join ([e, f, g, h, i].map (·.data.toList)) [32]))) = _
    rw [e5]
    rfl
/-- Any line, on an empty topology. -/
theorem line_all {s : ByteArray} (hs : s.size ≤ 1000) : (∃ er, Fails s er) ∨ (∃ T' : Lists, Adds s ([], [], []) T' ∧ CanT T'.1 T'.2.1 T'.2.2 ∧ linesT T'.1 T'.2.1 T'.2.2 = [s.data.toList]) := by
 obtain ⟨t, h1, hm, h3, h4, h5⟩ := split_some 32 hs
 have hjs := join_sp 32 s.data.toList
 rw [← hm] at hjs
 cases t with
 | nil => simp at h5
 | cons t0 r =>
  have h0 : rdOf ByteArray.empty (t0 :: r) 0 = t0 := rfl
  have hr : (t0 :: r).drop 1 = r := rfl
  have hrl : r.length ≤ 1000 := by simp at h4; omega
  by_cases c1 : t0.toList = [100, 101, 118, 105, 99, 101]
  ·obtain ⟨ns, e, hn, _, hok⟩ := numbers_all r hrl
   obtain ⟨K, hn⟩ := hn.rounds
   by_cases q : e = 0
   case neg => exact .inl ⟨e, q, t0 :: r, K, h1, h5, .inl ⟨c1, ns, e, hn, .inl ⟨q, rfl⟩⟩⟩
   subst q
   by_cases q2 : ns.length = 1
   case neg => exact .inl ⟨6, by decide, t0 :: r, K, h1, h5, .inl ⟨c1, ns, 0, hn, .inr ⟨rfl, q2, rfl⟩⟩⟩
   obtain ⟨hsm, hw⟩ := hok rfl
   match ns, q2, hsm, hw, hn with
   | [n], _, hsm, hw, hn =>
    refine .inr ⟨([n], [], []), ⟨t0 :: r, K, h1, h5, .inl ⟨c1, n, hn, rfl⟩⟩, ⟨⟨by simp, by simp, by simp⟩, hsm, (fun x hx => by cases hx), (fun x hx => by cases hx)⟩, ?_⟩
    have e1 : t0.data.toList = [100, 101, 118, 105, 99, 101] := by rw [← ByteArray.toList_eq]; exact c1
    rw [← hjs, hw]
    show [devT n] = [Lib.join (t0.data.toList :: D n.toNat :: []) [32]]
    rw [e1, join_two_more, Lib.join_one]
    rfl
  by_cases c2 : t0.toList = [108, 105, 110, 107]
  ·obtain ⟨ns, e, hn, _, hok⟩ := numbers_all r hrl
   obtain ⟨K, hn⟩ := hn.rounds
   by_cases q : e = 0
   case neg => exact .inl ⟨e, q, t0 :: r, K, h1, h5, .inr (.inl ⟨c2, ns, e, hn, .inl ⟨q, rfl⟩⟩)⟩
   subst q
   by_cases q2 : ns.length = 4
   case neg => exact .inl ⟨6, by decide, t0 :: r, K, h1, h5, .inr (.inl ⟨c2, ns, 0, hn, .inr ⟨rfl, q2, rfl⟩⟩)⟩
   obtain ⟨hsm, hw⟩ := hok rfl
   match ns, q2, hsm, hw, hn with
   | [na, nb, nc, nd], _, hsm, hw, hn =>
    refine .inr ⟨([], [⟨na, nb, nc, nd⟩], []), ⟨t0 :: r, K, h1, h5, .inr (.inl ⟨c2, na, nb, nc, nd, hn, rfl⟩)⟩, ⟨⟨by simp, by simp, by simp⟩, (fun x hx => by cases hx), ?_, (fun x hx => by cases hx)⟩, ?_⟩
    ·intro x hx
     obtain rfl := List.mem_singleton.1 hx
     exact ⟨hsm na (by simp), hsm nb (by simp), hsm nc (by simp), hsm nd (by simp)⟩
    ·have e1 : t0.data.toList = [108, 105, 110, 107] := by rw [← ByteArray.toList_eq]; exact c2
     rw [← hjs, hw]
     show [lnkT ⟨na, nb, nc, nd⟩] = [Lib.join (t0.data.toList :: D na.toNat :: D nb.toNat :: D nc.toNat :: D nd.toNat :: []) [32]]
     rw [e1, join_two_more, join_two_more, join_two_more, join_two_more, Lib.join_one]
     rfl
  by_cases c3 : t0.toList = [97, 99, 108]
  ·have hsz : (Lib.join (r.map (·.data.toList)) [32]).length ≤ 1000 := by
    have := join_drop_le 1 ((t0 :: r).map (·.data.toList))
    rw [hjs] at this
    have e3 : s.data.toList.length = s.size := by simp
    exact Nat.le_trans this (by omega)
   obtain ⟨x, er, ha, hok⟩ := ace_all hsz
   obtain ⟨K, ha⟩ := ha.rounds
   by_cases q : er = 0
   case neg => exact .inl ⟨er, q, t0 :: r, K, h1, h5, .inr (.inr (.inl ⟨c3, x, ha⟩))⟩
   subst q
   obtain ⟨s0, s1, hb, hrt, hw⟩ := hok rfl
   refine .inr ⟨([], [], [x]), ⟨t0 :: r, K, h1, h5, .inr (.inr ⟨c3, x, ha, rfl⟩)⟩, ⟨⟨by simp, by simp, by simp⟩, (fun x hx => by cases hx), (fun x hx => by cases hx), ?_⟩, ?_⟩
   ·intro y hy
    obtain rfl := List.mem_singleton.1 hy
    exact ⟨s0, s1, hb, hrt⟩
   ·have e1 : t0.data.toList = [97, 99, 108] := by rw [← ByteArray.toList_eq]; exact c3
    cases r with
    | nil =>
     exfalso
     have := congrArg List.length hw
     simp [Lib.join_nil] at this
    | cons r0 r1 =>
     rw [← hjs]
     show [aclT x] = [Lib.join (t0.data.toList :: r0.data.toList :: r1.map (·.data.toList)) [32]]
     rw [e1, join_two_more]
     show _ = [_ ++ 32 :: Lib.join ((r0 :: r1).map (·.data.toList)) [32]]
     rw [hw]
     rfl
  ·exact .inl ⟨6, by decide, t0 :: r, 0, h1, h5, .inr (.inr (.inr ⟨c1, c2, c3, rfl⟩))⟩


open Go.Proofs.YtloclimoffhbhaaDoor.Scr Go.Proofs.YtloclimoffhbhaaDoor.Facts Go.Proofs.YtloclimoffhbhaaDoor.Bits
theorem kindW_T' : ∀ m : Nat, kindW m = kindT m
 | 0 => rfl
 | 1 => rfl
 | 2 => rfl
 | 3 => rfl
 | 4 => rfl
 | _ + 5 => rfl
/-- What an answer of script.query is. -/
abbrev QBad (s : ByteArray) (er : Int) : Prop := ∀ w, Hand.Good true false w → Kinds w → Calls Tryd.prog 82 #[.string s] w fun e w' => e = .returned (.tuple #[.agg #[.int .i64 0, .int .i64 0, .int .i64 0, .int .u32 0, .int .i64 0, .int .u32 0, .int .i64 0, .int .i64 0, .int .u16 0, .int .u16 0, .int .u16 0, .int .u16 0], .int .i64 er]) ∧ Below w.heap.size w w'
abbrev QOk (s : ByteArray) (m : Nat) (q1 q2 f0 f1 f2 f3 f4 f5 f6 f7 f8 : Int) : Prop := ∀ w, Hand.Good true false w → Kinds w → Calls Tryd.prog 82 #[.string s] w fun e w' => e = .returned (.tuple #[.agg #[.int .i64 (m : Int), .int .i64 q1, .int .i64 q2, .int .u32 f0, .int .i64 f1, .int .u32 f2, .int .i64 f3, .int .i64 f4, .int .u16 f5, .int .u16 f6, .int .u16 f7, .int .u16 f8], .int .i64 0]) ∧ Below w.heap.size w w'
theorem data_of {b : ByteArray} {l : List UInt8} (h : b = B l) : b.data.toList = l := by rw [h]; rfl
theorem query_all {s : ByteArray} (hs : s.size ≤ 1000) : (∃ er, er ≠ 0 ∧ QBad s er) ∨
  (∃ (m : Nat) (q1 q2 f0 f1 f2 f3 f4 f5 f6 f7 f8 : Int), m < 6 ∧ small q1 ∧ (m = 0 → small q2) ∧ (m ≠ 0 → q2 = 0) ∧ BdF f0 f1 f2 f3 f4 f5 f6 f7 f8 ∧ rightF f0 f1 f2 f3 f4 f5 f6 f7 f8 = true ∧ s = B (qW m q1 q2 f0 f1 f2 f3 f4 f5 f6 f7 f8) ∧ QOk s m q1 q2 f0 f1 f2 f3 f4 f5 f6 f7 f8) := by
 obtain ⟨t, h1, hm, h3, h4, h5⟩ := split_some 32 hs
 have hjs := join_sp 32 s.data.toList
 rw [← hm] at hjs
 have hsl : s.data.toList.length = s.size := by simp
 by_cases hk : ∃ m : Nat, m < 6 ∧ rdOf ByteArray.empty t 0 = ⟨(kindW m).toArray⟩
 case neg => exact .inl ⟨6, by decide, fun w hG hK => query_none s t w hG hK h1 h5 (fun i hi e => hk ⟨i, hi, e⟩)⟩
 obtain ⟨m, hm6, ht⟩ := hk
 by_cases hm0 : m = 0
 ·subst hm0
  by_cases hl : t.length = 8
  case neg => exact .inl ⟨6, by decide, fun w hG hK => query_len0 s t w hG hK h1 ht h5 hl⟩
  match t, hl, h1, ht, hjs with
  | [t0, a, b, c, d, e, f, g], _, h1, ht, hjs =>
   obtain ⟨ns, er, hn, _, hok⟩ := numbers_all [a, b] (by simp)
   obtain ⟨K, hn⟩ := hn.rounds
   by_cases q : er = 0
   case neg => exact .inl ⟨er, q, fun w hG hK => query_num0 K ns er s _ w hG hK h1 ht rfl hn q⟩
   subst q
   obtain ⟨hsm, hw⟩ := hok rfl
   have hlen := congrArg List.length hw
   rw [List.length_map] at hlen
   match ns, hlen, hsm, hw, hn with
   | [n0, n1], _, hsm, hw, hn =>
    simp only [List.map_cons, List.map_nil, List.cons.injEq, and_true] at hw
    have hj5 : (Lib.join ([c, d, e, f, g].map (·.data.toList)) [32]).length ≤ 1000 := by
     have := join_drop_le 3 ([t0, a, b, c, d, e, f, g].map (·.data.toList))
     rw [hjs, hsl] at this
     exact Nat.le_trans this hs
    have hj := join_some hj5 (by simp)
    have hsz5 : (B (Lib.join ([c, d, e, f, g].map (·.data.toList)) [32])).size ≤ 1000 := by rw [B_size]; exact hj5
    obtain ⟨f0, f1, f2, f3, f4, f5, f6, f7, f8, er, hf, hg⟩ := filter_all hsz5
    obtain ⟨K2, hf⟩ := hf.rounds
    by_cases q : er = 0
    case neg => exact .inl ⟨er, q, fun w hG hK => query_flt0 K K2 [n0, n1] _ f0 f1 f2 f3 f4 f5 f6 f7 f8 er s _ w hG hK h1 ht rfl hn hj hf q⟩
    subst q
    obtain ⟨hb, hr, htx⟩ := hg rfl
    refine .inr ⟨0, n0, n1, f0, f1, f2, f3, f4, f5, f6, f7, f8, by decide, hsm n0 (by simp), fun _ => hsm n1 (by simp), fun h => absurd rfl h, hb, hr, B_of ?_, fun w hG hK => query0 K K2 s _ n0 n1 _ f0 f1 f2 f3 f4 f5 f6 f7 f8 w hG hK h1 ht rfl hn hj hf⟩
    have e5 : Lib.join ([c, d, e, f, g].map (·.data.toList)) [32] = fT f0 f1 f2 f3 f4 f5 f6 f7 f8 := data_of htx
    have e0 : t0.data.toList = kindT 0 := data_of (show t0 = B (kindT 0) from ht)
    rw [← hjs]
    show Lib.join (t0.data.toList :: a.data.toList :: b.data.toList :: c.data.toList :: [d, e, f, g].map (·.data.toList)) [32] = _
    rw [e0, data_of hw.1, data_of hw.2, join_two_more, join_two_more, join_two_more]
    show _ ++ 32 :: (_ ++ 32 :: (_ ++ 32 :: Lib.join ([c, d, e, f, g].map (·.data.toList)) [32])) = _
    rw [e5]
    unfold qW
    rw [if_pos rfl]
 ·have hmp : 0 < m := by omega
  by_cases hl : t.length = 7
  case neg => exact .inl ⟨6, by decide, fun w hG hK => query_lenS s t m w hG hK h1 hmp hm6 ht h5 hl⟩
  match t, hl, h1, ht, hjs with
  | [t0, a, c, d, e, f, g], _, h1, ht, hjs =>
   obtain ⟨ns, er, hn, _, hok⟩ := numbers_all [a] (by simp)
   obtain ⟨K, hn⟩ := hn.rounds
   by_cases q : er = 0
   case neg => exact .inl ⟨er, q, fun w hG hK => query_numS K ns er s _ m w hG hK h1 hmp hm6 ht rfl hn q⟩
   subst q
   obtain ⟨hsm, hw⟩ := hok rfl
   have hlen := congrArg List.length hw
   rw [List.length_map] at hlen
   match ns, hlen, hsm, hw, hn with
   | [n0], _, hsm, hw, hn =>
    simp only [List.map_cons, List.map_nil, List.cons.injEq, and_true] at hw
    have hj5 : (Lib.join ([c, d, e, f, g].map (·.data.toList)) [32]).length ≤ 1000 := by
     have := join_drop_le 2 ([t0, a, c, d, e, f, g].map (·.data.toList))
     rw [hjs, hsl] at this
     exact Nat.le_trans this hs
    have hj := join_some hj5 (by simp)
    have hsz5 : (B (Lib.join ([c, d, e, f, g].map (·.data.toList)) [32])).size ≤ 1000 := by rw [B_size]; exact hj5
    obtain ⟨f0, f1, f2, f3, f4, f5, f6, f7, f8, er, hf, hg⟩ := filter_all hsz5
    obtain ⟨K2, hf⟩ := hf.rounds
    by_cases q : er = 0
    case neg => exact .inl ⟨er, q, fun w hG hK => query_fltS K K2 [n0] _ f0 f1 f2 f3 f4 f5 f6 f7 f8 er s _ m w hG hK h1 hmp hm6 ht rfl hn hj hf q⟩
    subst q
    obtain ⟨hb, hr, htx⟩ := hg rfl
    refine .inr ⟨m, n0, 0, f0, f1, f2, f3, f4, f5, f6, f7, f8, hm6, hsm n0 (by simp), fun h => absurd h hm0, fun _ => rfl, hb, hr, B_of ?_, fun w hG hK => queryS K K2 s _ m n0 _ f0 f1 f2 f3 f4 f5 f6 f7 f8 w hG hK h1 hmp hm6 ht rfl hn hj hf⟩
    have e5 : Lib.join ([c, d, e, f, g].map (·.data.toList)) [32] = fT f0 f1 f2 f3 f4 f5 f6 f7 f8 := data_of htx
    have e0 : t0.data.toList = kindT m := data_of (show t0 = B (kindT m) by rw [← kindW_T']; exact ht)
    rw [← hjs]
    show Lib.join (t0.data.toList :: a.data.toList :: c.data.toList :: [d, e, f, g].map (·.data.toList)) [32] = _
    rw [e0, data_of hw, join_two_more, join_two_more]
    show _ ++ 32 :: (_ ++ 32 :: Lib.join ([c, d, e, f, g].map (·.data.toList)) [32]) = _
    rw [e5]
    unfold qW
    rw [if_neg hm0]
/-- What an answer of script.Call is. -/
abbrev CBad (s : ByteArray) (er : Int) : Prop := ∀ w, Hand.Good true true w → Kinds w → Calls Tryd.prog 26 #[.string s] w fun e w' => e = .returned (.tuple #[.nilIface, .int .i64 er]) ∧ Below w.heap.size w w'
abbrev COk (s : ByteArray) : Prop := ∀ w, Hand.Good true true w → Kinds w → Calls Tryd.prog 26 #[.string s] w fun e w' => ∃ t v, e = .returned (.tuple #[.iface t v, .int .i64 0]) ∧ Below w.heap.size w w' ∧ ∀ w2, Below w'.heap.size w' w2 → Calls Tryd.prog 27 #[.iface t v] w2 fun e w3 => e = .returned (.string s) ∧ Below w2.heap.size w2 w3
theorem call_all {s : ByteArray} (hs : s.size ≤ 600) : (∃ er, er ≠ 0 ∧ CBad s er) ∨ (0 < s.size ∧ COk s) := by
 have hsl : s.data.toList.length = s.size := by simp
 obtain ⟨a, b, t, hc, sa, sb, ht, hf⟩ := cut_some 32 (show s.size ≤ 1000 by omega)
 have hpos : ∀ l : List UInt8, s.toList = l → l ≠ [] → 0 < s.size := fun l h hl => by
  rw [ByteArray.toList_eq] at h
  rw [← hsl, h]
  exact List.length_pos_iff.2 hl
 have hlen : t = true → a.size + 1 + b.size = s.size := fun h => by
  have e := congrArg ByteArray.size (ht h)
  rw [B_size, List.length_append, List.length_cons] at e
  have e1 : a.data.toList.length = a.size := by simp
  have e2 : b.data.toList.length = b.size := by simp
  omega
 by_cases c1 : t = true ∧ a.toList = [98, 97, 116, 99, 104]
 ·obtain ⟨rfl, ha⟩ := c1
  obtain ⟨l, er, hch, _, hok⟩ := changes_all sb
  by_cases q : er = 0
  case neg =>
   obtain ⟨K, hch⟩ := hch.rounds
   exact .inl ⟨er, q, fun w hG hK => call_batch_bad s a b K l er w (Hand.Good.below true false hG (Below.refl _ _) rfl rfl) hc ha q hch⟩
  subst q
  obtain ⟨h0, h1, hb, hr, hw⟩ := hok rfl
  obtain ⟨K, hch⟩ := hch.rounds
  obtain ⟨K2, hp⟩ := ev_all (P := fun _ => True) (g := fun q k => prC k q = some (B (chT q))) l (fun q hq => print_ev (hb q hq) (hr q hq))
  have hbl := hlen rfl
  have hjl : (joinS (l.map chT)).length = b.size := by rw [hw, B_size]
  refine .inr ⟨by omega, fun w hG hK => ?_⟩
  refine (crossbucklaw25_awake.batch_ K s a b l w (Hand.Good.below true false hG (Below.refl _ _) rfl rfl) hc ha hch).mono ?_
  rintro e w2 ⟨v, rfl, hR2, hb2⟩
  obtain ⟨A1, c1, rfl⟩ := Kd.R_slice hR2
  have hC2 := (Kd.R_reads' hR2).2.2
  refine ⟨_, _, rfl, hb2, fun w3 hb3 => ?_⟩
  have hst : (⟨#[98, 97, 116, 99, 104, 32]⟩ : ByteArray) ++ B (joinS (l.map chT)) = s := by
   have e1 : a.data.toList = [98, 97, 116, 99, 104] := by rw [← ByteArray.toList_eq]; exact ha
   rw [ht rfl, e1, data_of hw, ← show B [98, 97, 116, 99, 104, 32] = (⟨#[98, 97, 116, 99, 104, 32]⟩ : ByteArray) from rfl, B_add]
   rfl
  obtain ⟨ad1, rfl, _⟩ := hC2.2.2 h0
  rw [← hst]
  refine printB K2 (some ad1) c1 l ((l.map chT).map B) _ w3 (Hand.Good.below false true hG (below_step hb2 hb3) rfl rfl) (Kd.C_below hC2 hb3) (by omega) (by rw [List.length_map, List.length_map]) (fun i h1 h2 => ?_) (join_semi _ (by omega)) (by rw [B_size]; omega)
  rw [List.getElem_map, List.getElem_map]
  exact hp K2 (Nat.le_refl _) _ (List.getElem_mem h1)
 by_cases c2 : t = true ∧ a.toList = [97, 115, 107]
 ·obtain ⟨rfl, ha⟩ := c2
  rcases query_all sb with ⟨er, q, hq⟩ | ⟨m, q1, q2, f0, f1, f2, f3, f4, f5, f6, f7, f8, hm6, s1, s2, hz, hbf, hrf, hw, hq⟩
  ·exact .inl ⟨er, q, fun w hG hK => call_ask_bad s a b er w (Hand.Good.below true false hG (Below.refl _ _) rfl rfl) hc ha q (fun w1 hb1 => hq w1 (Hand.Good.below true false hG hb1 rfl rfl) (hK.below hb1))⟩
  ·have hbl := hlen rfl
   refine .inr ⟨by omega, fun w hG hK => ?_⟩
   refine (call_ask s a b (m : Int) q1 q2 f0 f1 f2 f3 f4 f5 f6 f7 f8 w (Hand.Good.below true false hG (Below.refl _ _) rfl rfl) hc ha (fun w1 hb1 => hq w1 (Hand.Good.below true false hG hb1 rfl rfl) (hK.below hb1))).mono ?_
   rintro e w2 ⟨rfl, hb2⟩
   refine ⟨_, _, rfl, hb2, fun w3 hb3 => ?_⟩
   obtain ⟨⟨K1, hp⟩, _, _, hfl⟩ := fT_laws hbf hrf
   have hp' : filter_Print.f K1 f0 f1 f2 f3 f4 f5 f6 f7 f8 = _ := hp K1 (Nat.le_refl _)
   have hst : s = B (qT m q1 q2 f0 f1 f2 f3 f4 f5 f6 f7 f8) := by
    have e1 : a.data.toList = [97, 115, 107] := by rw [← ByteArray.toList_eq]; exact ha
    rw [ht rfl, e1, data_of hw]
    rfl
   have hG3 := Hand.Good.below false true hG (below_step hb2 hb3) rfl rfl
   have hK3 := hK.below (below_step hb2 hb3)
   by_cases hm0 : m = 0
   ·subst hm0
    have s2' := s2 rfl
    have := print_ask0 K1 q1 q2 f0 f1 f2 f3 f4 f5 f6 f7 f8 _ _ _ _ w3 hG3 hK3 (itoaS s1) (itoaS s2') hp' (q_join0 s1 s2' hfl)
    rw [← hst] at this
    exact this
   ·have hq0 := hz hm0
    subst hq0
    have := print_ask K1 m q1 0 f0 f1 f2 f3 f4 f5 f6 f7 f8 _ _ _ w3 hG3 hK3 (itoaS s1) (by omega) hm6 hp' (by rw [kindW_T']; exact q_joinS (tu := 0) hm0 s1 hfl)
    rw [← hst] at this
    exact this
 by_cases c3 : t = true ∧ a.toList = [117, 110, 112, 105, 110]
 ·obtain ⟨rfl, ha⟩ := c3
  obtain ⟨n, er, hn⟩ := num_some b 2097152
  by_cases q : er = 0
  case neg => exact .inl ⟨er, q, fun w hG hK => call_unpin_bad s a b n er w (Hand.Good.below true false hG (Below.refl _ _) rfl rfl) hc ha q hn⟩
  subst q
  obtain ⟨n0, n1, hw⟩ := numText (by decide) (by decide) hn
  have hbl := hlen rfl
  refine .inr ⟨by omega, fun w hG hK => ?_⟩
  refine (call_unpin s a b n w (Hand.Good.below true false hG (Below.refl _ _) rfl rfl) hc ha hn).mono ?_
  rintro e w2 ⟨rfl, hb2⟩
  refine ⟨_, _, rfl, hb2, fun w3 hb3 => ?_⟩
  have hst : (⟨#[117, 110, 112, 105, 110, 32]⟩ : ByteArray) ++ B (D n.toNat) = s := by
   have e1 : a.data.toList = [117, 110, 112, 105, 110] := by rw [← ByteArray.toList_eq]; exact ha
   rw [ht rfl, e1, data_of hw, ← show B [117, 110, 112, 105, 110, 32] = (⟨#[117, 110, 112, 105, 110, 32]⟩ : ByteArray) from rfl, B_add]
   rfl
  have := print_unpin n (B (D n.toNat)) w3 (Hand.Good.below false true hG (below_step hb2 hb3) rfl rfl) (itoaS ⟨n0, n1⟩) (by rw [← hw]; omega)
  rw [hst] at this
  exact this
 have hno : t = true → s.toList ≠ [112, 105, 110] ∧ s.toList ≠ [99, 108, 111, 115, 101] := fun h => by
  have e := data_of (ht h)
  rw [ByteArray.toList_eq]
  have hin : (32 : UInt8) ∈ s.data.toList := by rw [e]; simp
  constructor
  ·intro e2
   rw [e2] at hin
   exact absurd hin (by decide)
  ·intro e2
   rw [e2] at hin
   exact absurd hin (by decide)
 have small_ : ∀ (l : List UInt8) (ty : TypeId), s.toList = l → l ≠ [] →
   (∀ w, Hand.Good true false w → Calls Tryd.prog 26 #[.string s] w fun e w' => e = .returned (.tuple #[.iface ty (.agg #[]), .int .i64 0]) ∧ Below w.heap.size w w') →
   (∀ w, Calls Tryd.prog 27 #[.iface ty (.agg #[])] w fun e w' => e = .returned (.string ⟨l.toArray⟩) ∧ Below w.heap.size w w') → 0 < s.size ∧ COk s := fun l ty hl hne h1 h2 => by
  refine ⟨hpos l hl hne, fun w hG hK => ?_⟩
  refine (h1 w (Hand.Good.below true false hG (Below.refl _ _) rfl rfl)).mono ?_
  rintro e w2 ⟨rfl, hb2⟩
  refine ⟨_, _, rfl, hb2, fun w3 hb3 => ?_⟩
  have := h2 w3
  rw [show (⟨l.toArray⟩ : ByteArray) = s from (toList_D hl).symm] at this
  exact this
 by_cases c4 : s.toList = [112, 105, 110]
 ·cases t with
  | true => exact absurd c4 (hno rfl).1
  | false =>
   obtain ⟨rfl, rfl⟩ := hf rfl
   exact .inr (small_ _ 149 c4 (by simp) (fun w hG => call_pin _ _ w hG hc c4) (fun w => print_pin w))
 by_cases c5 : s.toList = [99, 108, 111, 115, 101]
 ·cases t with
  | true => exact absurd c5 (hno rfl).2
  | false =>
   obtain ⟨rfl, rfl⟩ := hf rfl
   exact .inr (small_ _ 150 c5 (by simp) (fun w hG => call_close _ _ w hG hc c5) (fun w => print_close w))
 exact .inl ⟨6, by decide, fun w hG hK => call_none s a b t w (Hand.Good.below true false hG (Below.refl _ _) rfl rfl) hc (fun h e => c1 ⟨h, e⟩) (fun h e => c2 ⟨h, e⟩) (fun h e => c3 ⟨h, e⟩) c4 c5⟩


open Go.Proofs.YtloclimoffhbhaaDoor.Scr Go.Proofs.YtloclimoffhbhaaDoor.Facts Go.Proofs.YtloclimoffhbhaaDoor.Bits
def stepsT (T' : Lists) : Nat → Lists
 | 0 => ([], [], [])
 | _ + 1 => T'
theorem topo_line_bad {s : ByteArray} {er : Int} (hF : Fails s er) (g : Addr) (w : World) (hC : Kd.C Kd.string w (some g) 1 [s]) (hG : Hand.Good true false w) :
  Calls Tryd.prog 24 #[.slice (some g) 1 1] w fun e w' => e = .returned (.tuple #[.agg #[.slice none 0 0, .slice none 0 0, .slice none 0 0], .int .i64 0, .int .i64 er]) ∧ Below w.heap.size w w' :=
 topo_bad 0 er (some g) 1 [s] (stepsT ([], [], [])) w hC (show 1 ≤ 1000 by decide) hG rfl (fun i _ => by cases i <;> exact ⟨by simp [stepsT], by simp [stepsT], by simp [stepsT]⟩) (show 0 < 1 by decide) (fun i h => absurd h (Nat.not_lt_zero i)) hF
theorem topo_line_ok {s : ByteArray} {T' : Lists} (hA : Adds s ([], [], []) T') (hf : T'.few 1000) (g : Addr) (w : World) (hC : Kd.C Kd.string w (some g) 1 [s]) (hG : Hand.Good true false w) :
  Calls Tryd.prog 24 #[.slice (some g) 1 1] w fun e w' => ∃ A1 c1 A2 c2 A3 c3, e = .returned (.tuple #[.agg #[.slice A1 T'.1.length c1, .slice A2 T'.2.1.length c2, .slice A3 T'.2.2.length c3], .int .i64 (-1), .int .i64 0]) ∧ Aside0 (Kd.C (Kd.int .i64) w' A1 T'.1.length T'.1 ∧ T'.1.length ≤ c1) ∧ Aside0 (Kd.C k133 w' A2 T'.2.1.length T'.2.1 ∧ T'.2.1.length ≤ c2) ∧ Aside0 (Kd.C k130 w' A3 T'.2.2.length T'.2.2 ∧ T'.2.2.length ≤ c3) ∧ Below w.heap.size w w' := by
 refine (topo_ok (some g) 1 [s] (stepsT T') w hC (show 1 ≤ 1000 by decide) hG rfl (fun i _ => ?_) (fun i h => ?_)).mono ?_
 ·cases i with
  | zero => exact ⟨by simp [stepsT], by simp [stepsT], by simp [stepsT]⟩
  | succ i => exact hf
 ·obtain rfl : i = 0 := by simp at h; exact h
  exact hA
 ·rintro e w' ⟨vP, vL, vA, rfl, h0, h1, h2, hb⟩
  obtain ⟨A1, c1, rfl⟩ := Kd.R_slice h0
  obtain ⟨A2, c2, rfl⟩ := Kd.R_slice h1
  obtain ⟨A3, c3, rfl⟩ := Kd.R_slice h2
  obtain ⟨_, l0, r0⟩ := Kd.R_reads' h0
  obtain ⟨_, l1, r1⟩ := Kd.R_reads' h1
  obtain ⟨_, l2, r2⟩ := Kd.R_reads' h2
  exact ⟨A1, c1, A2, c2, A3, c3, rfl, ⟨r0, l0⟩, ⟨r1, l1⟩, ⟨r2, l2⟩, hb⟩
set_option maxHeartbeats 4000000 in
set_option maxRecDepth 100000 in
theorem reads_many (kA : Nat) (s : ByteArray) (w : World) (hG : Hand.Good true true w) (h : 600 < s.size) (haw : crossbucklaw25_awake.f kA = some true) :
  Calls Tryd.prog 4 #[.string s] w fun e w' => e = .returned (.bool true) ∧ Below w.heap.size w w' := by
 have HG := Aside0.mk hG
 have HAW := Aside0.mk haw
 have B0 := Aside0.mk (Below.refl w.heap.size w)
 have q0 : decide (600 < s.size) = true := decide_eq_true (by omega)
 have q1 : decide ((600 : Int) < (s.size : Int)) = true := decide_eq_true (by omega)
 clear h hG haw
 go_enter Tryd.func4, Tryd.ntmps4
 go_wp2_with (first
  | (go_at_call 21; (with_reducible refine (crossbucklaw25_awake.calls kA true _ (Hand.Good.below true false HG.out B0.out rfl rfl) HAW.out).mono ?_); rintro e w9 ⟨rfl, hb⟩; have B9 := Aside0.mk (below_step B0.out hb); clear hb))
 go_ret
 exact ⟨rfl, B9.out⟩
set_option maxHeartbeats 4000000 in
set_option maxRecDepth 100000 in
theorem reads_bbb (kA kT kC kP : Nat) (ec et eg : Int) (T' : Lists) (q : S46) (s : ByteArray) (w : World) (hG : Hand.Good true true w) (hK : Kinds w) (h : s.size ≤ 600) (haw : crossbucklaw25_awake.f kA = some true) (hca : CBad s ec) (hec : ec ≠ 0) (hto : Fails s et) (het : et ≠ 0) (hch : script_Change.f kC s = some (false, 0, 0, 0, 0, 0, 0, eg)) (heg : eg ≠ 0) :
  Calls Tryd.prog 4 #[.string s] w fun e w' => e = .returned (.bool true) ∧ Below w.heap.size w w' := by
 have HG := Aside0.mk hG
 have HK := Aside0.mk hK
 have HAW := Aside0.mk haw
 have HCA := Aside0.mk hca
 have HTO := Aside0.mk hto
 have HCH := Aside0.mk hch
 have B0 := Aside0.mk (Below.refl w.heap.size w)
 have q0 : decide (600 < s.size) = false := decide_eq_false (by omega)
 have q1 : decide ((600 : Int) < (s.size : Int)) = false := decide_eq_false (by omega)
 have ss : (s.toList == s.toList) = true := beq_self_eq_true _
 have ss2 : (s.toList != s.toList) = false := bne_self_eq_false _
 have hec1 : (ec != 0) = true := bne_iff_ne.2 hec
 have het1 : (et != 0) = true := bne_iff_ne.2 het
 have het2 : (et == 0) = false := beq_eq_false_iff_ne.2 het
 have heg1 : (eg != 0) = true := bne_iff_ne.2 heg
 have heg2 : (eg == 0) = false := beq_eq_false_iff_ne.2 heg
 clear h hG hK haw hca hto hch hec het heg
 go_enter Tryd.func4, Tryd.ntmps4
 go_wp2_with (first
  | (go_at_call 26; (with_reducible refine (HCA.out _ (Hand.Good.below true true HG.out B0.out rfl rfl) (HK.out.below B0.out)).mono ?_); rintro e w1 ⟨rfl, hb⟩; have B2 := Aside0.mk (below_step B0.out hb); clear hb)
  | ((with_reducible refine gate_dst (N := 36) rfl ?_); refine lit_event ?hg (N := 36) ?hd (cs := #[.string s]) (t := 9) (n := 1) ?hr ?_; (case hd => rfl); (case hg => rfl); (case hr => first | (go_simp; done) | (go_simp; rfl)); intro g3 hg3 w3 hbox hb; have B3 := Aside0.mk (below_step B2.out hb); have C3 := Aside0.mk (Kd.R_reads' (R_texts (base := 0) (xs := [s]) hbox (Nat.zero_le _) (show 1 ≤ 1000 by decide) (show 0 < 1 by decide))).2.2; clear hg3 hbox hb)
  | (go_at_call 24; (with_reducible refine (topo_line_bad HTO.out _ _ C3.out (Hand.Good.below true false HG.out B3.out rfl rfl)).mono ?_); rintro e w4 ⟨rfl, hb⟩; have B4 := Aside0.mk (below_step B3.out hb); clear hb)
  | (go_at_call 28; (with_reducible refine (script_Change.calls kC s false 0 0 0 0 0 0 eg _ (Hand.Good.below true false HG.out (below_alloc B4.out _) rfl rfl) HCH.out).mono ?_); rintro e w6 ⟨rfl, hb⟩; have B6 := Aside0.mk (below_step (below_alloc B4.out _) hb); clear hb)
  | (go_at_call 21; (with_reducible refine (crossbucklaw25_awake.calls kA true _ (Hand.Good.below true false HG.out (below_alloc B6.out _) rfl rfl) HAW.out).mono ?_); rintro e w9 ⟨rfl, hb⟩; have B9 := Aside0.mk (below_step (below_alloc B6.out _) hb); have BO9 := Aside0.mk (blk_below (g := w6.heap.size) (o := .cells #[.bool false, .int .i64 0, .int .i64 0, .int .u32 0, .int .i64 0, .int .i64 0, .int .i64 0] 46 (0, 0)) (blk_new w6 _) hb); have zz := cz7 BO9.out; clear hb))
 go_ret
 exact ⟨rfl, B9.out⟩
set_option maxHeartbeats 4000000 in
set_option maxRecDepth 100000 in
theorem reads_bbo (kA kT kC kP : Nat) (ec et eg : Int) (T' : Lists) (q : S46) (s : ByteArray) (w : World) (hG : Hand.Good true true w) (hK : Kinds w) (h : s.size ≤ 600) (haw : crossbucklaw25_awake.f kA = some true) (hca : CBad s ec) (hec : ec ≠ 0) (hto : Fails s et) (het : et ≠ 0) (hch : script_Change.f kC s = some (q.f0, q.f1.f0, q.f1.f1, q.f1.f2.f0, q.f1.f2.f1, q.f1.f3, q.f1.f4, 0)) (hpc : prC kP q = some s) :
  Calls Tryd.prog 4 #[.string s] w fun e w' => e = .returned (.bool true) ∧ Below w.heap.size w w' := by
 have HG := Aside0.mk hG
 have HK := Aside0.mk hK
 have HAW := Aside0.mk haw
 have HCA := Aside0.mk hca
 have HTO := Aside0.mk hto
 have HCH := Aside0.mk hch
 have B0 := Aside0.mk (Below.refl w.heap.size w)
 have q0 : decide (600 < s.size) = false := decide_eq_false (by omega)
 have q1 : decide ((600 : Int) < (s.size : Int)) = false := decide_eq_false (by omega)
 have ss : (s.toList == s.toList) = true := beq_self_eq_true _
 have ss2 : (s.toList != s.toList) = false := bne_self_eq_false _
 have hec1 : (ec != 0) = true := bne_iff_ne.2 hec
 have het1 : (et != 0) = true := bne_iff_ne.2 het
 have het2 : (et == 0) = false := beq_eq_false_iff_ne.2 het
 have HPC := Aside0.mk hpc
 clear h hG hK haw hca hto hch hec het hpc
 go_enter Tryd.func4, Tryd.ntmps4
 go_wp2_with (first
  | (go_at_call 26; (with_reducible refine (HCA.out _ (Hand.Good.below true true HG.out B0.out rfl rfl) (HK.out.below B0.out)).mono ?_); rintro e w1 ⟨rfl, hb⟩; have B2 := Aside0.mk (below_step B0.out hb); clear hb)
  | ((with_reducible refine gate_dst (N := 36) rfl ?_); refine lit_event ?hg (N := 36) ?hd (cs := #[.string s]) (t := 9) (n := 1) ?hr ?_; (case hd => rfl); (case hg => rfl); (case hr => first | (go_simp; done) | (go_simp; rfl)); intro g3 hg3 w3 hbox hb; have B3 := Aside0.mk (below_step B2.out hb); have C3 := Aside0.mk (Kd.R_reads' (R_texts (base := 0) (xs := [s]) hbox (Nat.zero_le _) (show 1 ≤ 1000 by decide) (show 0 < 1 by decide))).2.2; clear hg3 hbox hb)
  | (go_at_call 24; (with_reducible refine (topo_line_bad HTO.out _ _ C3.out (Hand.Good.below true false HG.out B3.out rfl rfl)).mono ?_); rintro e w4 ⟨rfl, hb⟩; have B4 := Aside0.mk (below_step B3.out hb); clear hb)
  | (go_at_call 28; (with_reducible refine (script_Change.calls kC s q.f0 q.f1.f0 q.f1.f1 q.f1.f2.f0 q.f1.f2.f1 q.f1.f3 q.f1.f4 0 _ (Hand.Good.below true false HG.out (below_alloc B4.out _) rfl rfl) HCH.out).mono ?_); rintro e w6 ⟨rfl, hb⟩; have B6 := Aside0.mk (below_step (below_alloc B4.out _) hb); clear hb)
  | (go_at_call 21; (with_reducible refine (crossbucklaw25_awake.calls kA true _ (Hand.Good.below true false HG.out (below_alloc B6.out _) rfl rfl) HAW.out).mono ?_); rintro e w9 ⟨rfl, hb⟩; have B9 := Aside0.mk (below_step (below_alloc B6.out _) hb); have BO9 := Aside0.mk (blk_below (g := w6.heap.size) (o := .cells #[.bool q.f0, .int .i64 q.f1.f0, .int .i64 q.f1.f1, .int .u32 q.f1.f2.f0, .int .i64 q.f1.f2.f1, .int .i64 q.f1.f3, .int .i64 q.f1.f4] 46 (0, 0)) (blk_new w6 _) hb); have zz := cz7 BO9.out; clear hb)
  | (go_at_call 29; (with_reducible refine (script_PrintChange.calls kP q.f0 q.f1.f0 q.f1.f1 q.f1.f2.f0 q.f1.f2.f1 q.f1.f3 q.f1.f4 s _ (Hand.Good.below false true HG.out B9.out rfl rfl) HPC.out).mono ?_); rintro e w10 ⟨rfl, hb⟩; have B10 := Aside0.mk (below_step B9.out hb); clear hb))
 go_ret
 exact ⟨rfl, B10.out⟩
set_option maxHeartbeats 4000000 in
set_option maxRecDepth 100000 in
theorem reads_bob (kA kT kC kP : Nat) (ec et eg : Int) (T' : Lists) (q : S46) (s : ByteArray) (w : World) (hG : Hand.Good true true w) (hK : Kinds w) (h : s.size ≤ 600) (haw : crossbucklaw25_awake.f kA = some true) (hca : CBad s ec) (hec : ec ≠ 0) (hto : Adds s ([], [], []) T') (hfw : T'.few 1000) (hpt : script_PrintTopo.f kT T'.1 T'.2.1 T'.2.2 = some [s]) (hch : script_Change.f kC s = some (false, 0, 0, 0, 0, 0, 0, eg)) (heg : eg ≠ 0) :
  Calls Tryd.prog 4 #[.string s] w fun e w' => e = .returned (.bool true) ∧ Below w.heap.size w w' := by
 have HG := Aside0.mk hG
 have HK := Aside0.mk hK
 have HAW := Aside0.mk haw
 have HCA := Aside0.mk hca
 have HTO := Aside0.mk hto
 have HCH := Aside0.mk hch
 have B0 := Aside0.mk (Below.refl w.heap.size w)
 have q0 : decide (600 < s.size) = false := decide_eq_false (by omega)
 have q1 : decide ((600 : Int) < (s.size : Int)) = false := decide_eq_false (by omega)
 have ss : (s.toList == s.toList) = true := beq_self_eq_true _
 have ss2 : (s.toList != s.toList) = false := bne_self_eq_false _
 have hec1 : (ec != 0) = true := bne_iff_ne.2 hec
 have HFW := Aside0.mk hfw
 have HPT := Aside0.mk hpt
 have heg1 : (eg != 0) = true := bne_iff_ne.2 heg
 have heg2 : (eg == 0) = false := beq_eq_false_iff_ne.2 heg
 clear h hG hK haw hca hto hch hec hfw hpt heg
 go_enter Tryd.func4, Tryd.ntmps4
 go_wp2_with (first
  | (go_at_call 26; (with_reducible refine (HCA.out _ (Hand.Good.below true true HG.out B0.out rfl rfl) (HK.out.below B0.out)).mono ?_); rintro e w1 ⟨rfl, hb⟩; have B2 := Aside0.mk (below_step B0.out hb); clear hb)
  | ((with_reducible refine gate_dst (N := 36) rfl ?_); refine lit_event ?hg (N := 36) ?hd (cs := #[.string s]) (t := 9) (n := 1) ?hr ?_; (case hd => rfl); (case hg => rfl); (case hr => first | (go_simp; done) | (go_simp; rfl)); intro g3 hg3 w3 hbox hb; have B3 := Aside0.mk (below_step B2.out hb); have C3 := Aside0.mk (Kd.R_reads' (R_texts (base := 0) (xs := [s]) hbox (Nat.zero_le _) (show 1 ≤ 1000 by decide) (show 0 < 1 by decide))).2.2; clear hg3 hbox hb)
  | (go_at_call 24; (with_reducible refine (topo_line_ok HTO.out HFW.out _ _ C3.out (Hand.Good.below true false HG.out B3.out rfl rfl)).mono ?_); rintro e w4 ⟨A1, c1, A2, c2, A3, c3, rfl, R1, R2, R3, hb⟩; have B4 := Aside0.mk (below_step B3.out hb); clear hb)
  | (go_at_call 22; (with_reducible refine (script_PrintTopo.calls kT A1 c1 T'.1 A2 c2 T'.2.1 A3 c3 T'.2.2 [s] _ (Hand.Good.below false true HG.out (below_alloc B4.out _) rfl rfl) (Kd.C_below R1.out.1 (below_alloc (Below.refl _ _) _)) R1.out.2 (Kd.C_below R2.out.1 (below_alloc (Below.refl _ _) _)) R2.out.2 (Kd.C_below R3.out.1 (below_alloc (Below.refl _ _) _)) R3.out.2 HPT.out).mono ?_); rintro e w5 ⟨v5, rfl, hr, hb⟩; obtain ⟨A5, c5, e5⟩ := Kd.R_slice hr; subst e5; obtain ⟨ad5, ead5, hx5⟩ := Kd.at_string (Kd.R_reads' hr).2.2 0 (by decide) (show (0 : Int) < (([s] : List ByteArray).length : Int) from (by decide : (0 : Int) < 1)); cases ead5; replace hx5 : w5.cell? ad5 = some (.string s) := hx5; have B5 := Aside0.mk (below_step (below_alloc B4.out _) hb); clear hr hb)
  | (go_at_call 28; (with_reducible refine (script_Change.calls kC s false 0 0 0 0 0 0 eg _ (Hand.Good.below true false HG.out B5.out rfl rfl) HCH.out).mono ?_); rintro e w6 ⟨rfl, hb⟩; have B6 := Aside0.mk (below_step B5.out hb); clear hb)
  | (go_at_call 21; (with_reducible refine (crossbucklaw25_awake.calls kA true _ (Hand.Good.below true false HG.out (below_alloc B6.out _) rfl rfl) HAW.out).mono ?_); rintro e w9 ⟨rfl, hb⟩; have B9 := Aside0.mk (below_step (below_alloc B6.out _) hb); have BO9 := Aside0.mk (blk_below (g := w6.heap.size) (o := .cells #[.bool false, .int .i64 0, .int .i64 0, .int .u32 0, .int .i64 0, .int .i64 0, .int .i64 0] 46 (0, 0)) (blk_new w6 _) hb); have zz := cz7 BO9.out; clear hb))
 go_ret
 exact ⟨rfl, B9.out⟩
set_option maxHeartbeats 4000000 in
set_option maxRecDepth 100000 in
theorem reads_boo (kA kT kC kP : Nat) (ec et eg : Int) (T' : Lists) (q : S46) (s : ByteArray) (w : World) (hG : Hand.Good true true w) (hK : Kinds w) (h : s.size ≤ 600) (haw : crossbucklaw25_awake.f kA = some true) (hca : CBad s ec) (hec : ec ≠ 0) (hto : Adds s ([], [], []) T') (hfw : T'.few 1000) (hpt : script_PrintTopo.f kT T'.1 T'.2.1 T'.2.2 = some [s]) (hch : script_Change.f kC s = some (q.f0, q.f1.f0, q.f1.f1, q.f1.f2.f0, q.f1.f2.f1, q.f1.f3, q.f1.f4, 0)) (hpc : prC kP q = some s) :
  Calls Tryd.prog 4 #[.string s] w fun e w' => e = .returned (.bool true) ∧ Below w.heap.size w w' := by
 have HG := Aside0.mk hG
 have HK := Aside0.mk hK
 have HAW := Aside0.mk haw
 have HCA := Aside0.mk hca
 have HTO := Aside0.mk hto
 have HCH := Aside0.mk hch
 have B0 := Aside0.mk (Below.refl w.heap.size w)
 have q0 : decide (600 < s.size) = false := decide_eq_false (by omega)
 have q1 : decide ((600 : Int) < (s.size : Int)) = false := decide_eq_false (by omega)
 have ss : (s.toList == s.toList) = true := beq_self_eq_true _
 have ss2 : (s.toList != s.toList) = false := bne_self_eq_false _
 have hec1 : (ec != 0) = true := bne_iff_ne.2 hec
 have HFW := Aside0.mk hfw
 have HPT := Aside0.mk hpt
 have HPC := Aside0.mk hpc
 clear h hG hK haw hca hto hch hec hfw hpt hpc
 go_enter Tryd.func4, Tryd.ntmps4
 go_wp2_with (first
  | (go_at_call 26; (with_reducible refine (HCA.out _ (Hand.Good.below true true HG.out B0.out rfl rfl) (HK.out.below B0.out)).mono ?_); rintro e w1 ⟨rfl, hb⟩; have B2 := Aside0.mk (below_step B0.out hb); clear hb)
  | ((with_reducible refine gate_dst (N := 36) rfl ?_); refine lit_event ?hg (N := 36) ?hd (cs := #[.string s]) (t := 9) (n := 1) ?hr ?_; (case hd => rfl); (case hg => rfl); (case hr => first | (go_simp; done) | (go_simp; rfl)); intro g3 hg3 w3 hbox hb; have B3 := Aside0.mk (below_step B2.out hb); have C3 := Aside0.mk (Kd.R_reads' (R_texts (base := 0) (xs := [s]) hbox (Nat.zero_le _) (show 1 ≤ 1000 by decide) (show 0 < 1 by decide))).2.2; clear hg3 hbox hb)
  | (go_at_call 24; (with_reducible refine (topo_line_ok HTO.out HFW.out _ _ C3.out (Hand.Good.below true false HG.out B3.out rfl rfl)).mono ?_); rintro e w4 ⟨A1, c1, A2, c2, A3, c3, rfl, R1, R2, R3, hb⟩; have B4 := Aside0.mk (below_step B3.out hb); clear hb)
  | (go_at_call 22; (with_reducible refine (script_PrintTopo.calls kT A1 c1 T'.1 A2 c2 T'.2.1 A3 c3 T'.2.2 [s] _ (Hand.Good.below false true HG.out (below_alloc B4.out _) rfl rfl) (Kd.C_below R1.out.1 (below_alloc (Below.refl _ _) _)) R1.out.2 (Kd.C_below R2.out.1 (below_alloc (Below.refl _ _) _)) R2.out.2 (Kd.C_below R3.out.1 (below_alloc (Below.refl _ _) _)) R3.out.2 HPT.out).mono ?_); rintro e w5 ⟨v5, rfl, hr, hb⟩; obtain ⟨A5, c5, e5⟩ := Kd.R_slice hr; subst e5; obtain ⟨ad5, ead5, hx5⟩ := Kd.at_string (Kd.R_reads' hr).2.2 0 (by decide) (show (0 : Int) < (([s] : List ByteArray).length : Int) from (by decide : (0 : Int) < 1)); cases ead5; replace hx5 : w5.cell? ad5 = some (.string s) := hx5; have B5 := Aside0.mk (below_step (below_alloc B4.out _) hb); clear hr hb)
  | (go_at_call 28; (with_reducible refine (script_Change.calls kC s q.f0 q.f1.f0 q.f1.f1 q.f1.f2.f0 q.f1.f2.f1 q.f1.f3 q.f1.f4 0 _ (Hand.Good.below true false HG.out B5.out rfl rfl) HCH.out).mono ?_); rintro e w6 ⟨rfl, hb⟩; have B6 := Aside0.mk (below_step B5.out hb); clear hb)
  | (go_at_call 21; (with_reducible refine (crossbucklaw25_awake.calls kA true _ (Hand.Good.below true false HG.out (below_alloc B6.out _) rfl rfl) HAW.out).mono ?_); rintro e w9 ⟨rfl, hb⟩; have B9 := Aside0.mk (below_step (below_alloc B6.out _) hb); have BO9 := Aside0.mk (blk_below (g := w6.heap.size) (o := .cells #[.bool q.f0, .int .i64 q.f1.f0, .int .i64 q.f1.f1, .int .u32 q.f1.f2.f0, .int .i64 q.f1.f2.f1, .int .i64 q.f1.f3, .int .i64 q.f1.f4] 46 (0, 0)) (blk_new w6 _) hb); have zz := cz7 BO9.out; clear hb)
  | (go_at_call 29; (with_reducible refine (script_PrintChange.calls kP q.f0 q.f1.f0 q.f1.f1 q.f1.f2.f0 q.f1.f2.f1 q.f1.f3 q.f1.f4 s _ (Hand.Good.below false true HG.out B9.out rfl rfl) HPC.out).mono ?_); rintro e w10 ⟨rfl, hb⟩; have B10 := Aside0.mk (below_step B9.out hb); clear hb))
 go_ret
 exact ⟨rfl, B10.out⟩
set_option maxHeartbeats 4000000 in
set_option maxRecDepth 100000 in
theorem reads_obb (kA kT kC kP : Nat) (ec et eg : Int) (T' : Lists) (q : S46) (s : ByteArray) (w : World) (hG : Hand.Good true true w) (hK : Kinds w) (h : s.size ≤ 600) (haw : crossbucklaw25_awake.f kA = some true) (hca : COk s) (h0 : 0 < s.size) (hto : Fails s et) (het : et ≠ 0) (hch : script_Change.f kC s = some (false, 0, 0, 0, 0, 0, 0, eg)) (heg : eg ≠ 0) :
  Calls Tryd.prog 4 #[.string s] w fun e w' => e = .returned (.bool true) ∧ Below w.heap.size w w' := by
 have HG := Aside0.mk hG
 have HK := Aside0.mk hK
 have HAW := Aside0.mk haw
 have HCA := Aside0.mk hca
 have HTO := Aside0.mk hto
 have HCH := Aside0.mk hch
 have B0 := Aside0.mk (Below.refl w.heap.size w)
 have q0 : decide (600 < s.size) = false := decide_eq_false (by omega)
 have q1 : decide ((600 : Int) < (s.size : Int)) = false := decide_eq_false (by omega)
 have ss : (s.toList == s.toList) = true := beq_self_eq_true _
 have ss2 : (s.toList != s.toList) = false := bne_self_eq_false _
 have hs0 : (s.toList == []) = false := by
  rw [ByteArray.toList_eq]
  have : s.data.toList.length = s.size := by simp
  cases hd : s.data.toList with
  | nil => rw [hd] at this; simp at this; omega
  | cons x y => rfl
 have het1 : (et != 0) = true := bne_iff_ne.2 het
 have het2 : (et == 0) = false := beq_eq_false_iff_ne.2 het
 have heg1 : (eg != 0) = true := bne_iff_ne.2 heg
 have heg2 : (eg == 0) = false := beq_eq_false_iff_ne.2 heg
 clear h hG hK haw hca hto hch h0 het heg
 go_enter Tryd.func4, Tryd.ntmps4
 go_wp2_with (first
  | (go_at_call 26; (with_reducible refine (HCA.out _ (Hand.Good.below true true HG.out B0.out rfl rfl) (HK.out.below B0.out)).mono ?_); rintro e w1 ⟨ty, vv, rfl, hb, hp⟩; have HP := Aside0.mk hp; have B1 := Aside0.mk (below_step B0.out hb); clear hb hp)
  | (go_at_call 27; (with_reducible refine (HP.out _ (Below.refl _ _)).mono ?_); rintro e w2 ⟨rfl, hb⟩; have B2 := Aside0.mk (below_step B1.out hb); clear hb)
  | ((with_reducible refine gate_dst (N := 36) rfl ?_); refine lit_event ?hg (N := 36) ?hd (cs := #[.string s]) (t := 9) (n := 1) ?hr ?_; (case hd => rfl); (case hg => rfl); (case hr => first | (go_simp; done) | (go_simp; rfl)); intro g3 hg3 w3 hbox hb; have B3 := Aside0.mk (below_step B2.out hb); have C3 := Aside0.mk (Kd.R_reads' (R_texts (base := 0) (xs := [s]) hbox (Nat.zero_le _) (show 1 ≤ 1000 by decide) (show 0 < 1 by decide))).2.2; clear hg3 hbox hb)
  | (go_at_call 24; (with_reducible refine (topo_line_bad HTO.out _ _ C3.out (Hand.Good.below true false HG.out B3.out rfl rfl)).mono ?_); rintro e w4 ⟨rfl, hb⟩; have B4 := Aside0.mk (below_step B3.out hb); clear hb)
  | (go_at_call 28; (with_reducible refine (script_Change.calls kC s false 0 0 0 0 0 0 eg _ (Hand.Good.below true false HG.out (below_alloc B4.out _) rfl rfl) HCH.out).mono ?_); rintro e w6 ⟨rfl, hb⟩; have B6 := Aside0.mk (below_step (below_alloc B4.out _) hb); clear hb)
  | (go_at_call 21; (with_reducible refine (crossbucklaw25_awake.calls kA true _ (Hand.Good.below true false HG.out (below_alloc B6.out _) rfl rfl) HAW.out).mono ?_); rintro e w9 ⟨rfl, hb⟩; have B9 := Aside0.mk (below_step (below_alloc B6.out _) hb); have BO9 := Aside0.mk (blk_below (g := w6.heap.size) (o := .cells #[.bool false, .int .i64 0, .int .i64 0, .int .u32 0, .int .i64 0, .int .i64 0, .int .i64 0] 46 (0, 0)) (blk_new w6 _) hb); have zz := cz7 BO9.out; clear hb))
 go_ret
 exact ⟨rfl, B9.out⟩
set_option maxHeartbeats 4000000 in
set_option maxRecDepth 100000 in
theorem reads_obo (kA kT kC kP : Nat) (ec et eg : Int) (T' : Lists) (q : S46) (s : ByteArray) (w : World) (hG : Hand.Good true true w) (hK : Kinds w) (h : s.size ≤ 600) (haw : crossbucklaw25_awake.f kA = some true) (hca : COk s) (h0 : 0 < s.size) (hto : Fails s et) (het : et ≠ 0) (hch : script_Change.f kC s = some (q.f0, q.f1.f0, q.f1.f1, q.f1.f2.f0, q.f1.f2.f1, q.f1.f3, q.f1.f4, 0)) (hpc : prC kP q = some s) :
  Calls Tryd.prog 4 #[.string s] w fun e w' => e = .returned (.bool true) ∧ Below w.heap.size w w' := by
 have HG := Aside0.mk hG
 have HK := Aside0.mk hK
 have HAW := Aside0.mk haw
 have HCA := Aside0.mk hca
 have HTO := Aside0.mk hto
 have HCH := Aside0.mk hch
 have B0 := Aside0.mk (Below.refl w.heap.size w)
 have q0 : decide (600 < s.size) = false := decide_eq_false (by omega)
 have q1 : decide ((600 : Int) < (s.size : Int)) = false := decide_eq_false (by omega)
 have ss : (s.toList == s.toList) = true := beq_self_eq_true _
 have ss2 : (s.toList != s.toList) = false := bne_self_eq_false _
 have hs0 : (s.toList == []) = false := by
  rw [ByteArray.toList_eq]
  have : s.data.toList.length = s.size := by simp
  cases hd : s.data.toList with
  | nil => rw [hd] at this; simp at this; omega
  | cons x y => rfl
 have het1 : (et != 0) = true := bne_iff_ne.2 het
 have het2 : (et == 0) = false := beq_eq_false_iff_ne.2 het
 have HPC := Aside0.mk hpc
 clear h hG hK haw hca hto hch h0 het hpc
 go_enter Tryd.func4, Tryd.ntmps4
 go_wp2_with (first
  | (go_at_call 26; (with_reducible refine (HCA.out _ (Hand.Good.below true true HG.out B0.out rfl rfl) (HK.out.below B0.out)).mono ?_); rintro e w1 ⟨ty, vv, rfl, hb, hp⟩; have HP := Aside0.mk hp; have B1 := Aside0.mk (below_step B0.out hb); clear hb hp)
  | (go_at_call 27; (with_reducible refine (HP.out _ (Below.refl _ _)).mono ?_); rintro e w2 ⟨rfl, hb⟩; have B2 := Aside0.mk (below_step B1.out hb); clear hb)
  | ((with_reducible refine gate_dst (N := 36) rfl ?_); refine lit_event ?hg (N := 36) ?hd (cs := #[.string s]) (t := 9) (n := 1) ?hr ?_; (case hd => rfl); (case hg => rfl); (case hr => first | (go_simp; done) | (go_simp; rfl)); intro g3 hg3 w3 hbox hb; have B3 := Aside0.mk (below_step B2.out hb); have C3 := Aside0.mk (Kd.R_reads' (R_texts (base := 0) (xs := [s]) hbox (Nat.zero_le _) (show 1 ≤ 1000 by decide) (show 0 < 1 by decide))).2.2; clear hg3 hbox hb)
  | (go_at_call 24; (with_reducible refine (topo_line_bad HTO.out _ _ C3.out (Hand.Good.below true false HG.out B3.out rfl rfl)).mono ?_); rintro e w4 ⟨rfl, hb⟩; have B4 := Aside0.mk (below_step B3.out hb); clear hb)
  | (go_at_call 28; (with_reducible refine (script_Change.calls kC s q.f0 q.f1.f0 q.f1.f1 q.f1.f2.f0 q.f1.f2.f1 q.f1.f3 q.f1.f4 0 _ (Hand.Good.below true false HG.out (below_alloc B4.out _) rfl rfl) HCH.out).mono ?_); rintro e w6 ⟨rfl, hb⟩; have B6 := Aside0.mk (below_step (below_alloc B4.out _) hb); clear hb)
  | (go_at_call 21; (with_reducible refine (crossbucklaw25_awake.calls kA true _ (Hand.Good.below true false HG.out (below_alloc B6.out _) rfl rfl) HAW.out).mono ?_); rintro e w9 ⟨rfl, hb⟩; have B9 := Aside0.mk (below_step (below_alloc B6.out _) hb); have BO9 := Aside0.mk (blk_below (g := w6.heap.size) (o := .cells #[.bool q.f0, .int .i64 q.f1.f0, .int .i64 q.f1.f1, .int .u32 q.f1.f2.f0, .int .i64 q.f1.f2.f1, .int .i64 q.f1.f3, .int .i64 q.f1.f4] 46 (0, 0)) (blk_new w6 _) hb); have zz := cz7 BO9.out; clear hb)
  | (go_at_call 29; (with_reducible refine (script_PrintChange.calls kP q.f0 q.f1.f0 q.f1.f1 q.f1.f2.f0 q.f1.f2.f1 q.f1.f3 q.f1.f4 s _ (Hand.Good.below false true HG.out B9.out rfl rfl) HPC.out).mono ?_); rintro e w10 ⟨rfl, hb⟩; have B10 := Aside0.mk (below_step B9.out hb); clear hb))
 go_ret
 exact ⟨rfl, B10.out⟩
set_option maxHeartbeats 4000000 in
set_option maxRecDepth 100000 in
theorem reads_oob (kA kT kC kP : Nat) (ec et eg : Int) (T' : Lists) (q : S46) (s : ByteArray) (w : World) (hG : Hand.Good true true w) (hK : Kinds w) (h : s.size ≤ 600) (haw : crossbucklaw25_awake.f kA = some true) (hca : COk s) (h0 : 0 < s.size) (hto : Adds s ([], [], []) T') (hfw : T'.few 1000) (hpt : script_PrintTopo.f kT T'.1 T'.2.1 T'.2.2 = some [s]) (hch : script_Change.f kC s = some (false, 0, 0, 0, 0, 0, 0, eg)) (heg : eg ≠ 0) :
  Calls Tryd.prog 4 #[.string s] w fun e w' => e = .returned (.bool true) ∧ Below w.heap.size w w' := by
 have HG := Aside0.mk hG
 have HK := Aside0.mk hK
 have HAW := Aside0.mk haw
 have HCA := Aside0.mk hca
 have HTO := Aside0.mk hto
 have HCH := Aside0.mk hch
 have B0 := Aside0.mk (Below.refl w.heap.size w)
 have q0 : decide (600 < s.size) = false := decide_eq_false (by omega)
 have q1 : decide ((600 : Int) < (s.size : Int)) = false := decide_eq_false (by omega)
 have ss : (s.toList == s.toList) = true := beq_self_eq_true _
 have ss2 : (s.toList != s.toList) = false := bne_self_eq_false _
 have hs0 : (s.toList == []) = false := by
  rw [ByteArray.toList_eq]
  have : s.data.toList.length = s.size := by simp
  cases hd : s.data.toList with
  | nil => rw [hd] at this; simp at this; omega
  | cons x y => rfl
 have HFW := Aside0.mk hfw
 have HPT := Aside0.mk hpt
 have heg1 : (eg != 0) = true := bne_iff_ne.2 heg
 have heg2 : (eg == 0) = false := beq_eq_false_iff_ne.2 heg
 clear h hG hK haw hca hto hch h0 hfw hpt heg
 go_enter Tryd.func4, Tryd.ntmps4
 go_wp2_with (first
  | (go_at_call 26; (with_reducible refine (HCA.out _ (Hand.Good.below true true HG.out B0.out rfl rfl) (HK.out.below B0.out)).mono ?_); rintro e w1 ⟨ty, vv, rfl, hb, hp⟩; have HP := Aside0.mk hp; have B1 := Aside0.mk (below_step B0.out hb); clear hb hp)
  | (go_at_call 27; (with_reducible refine (HP.out _ (Below.refl _ _)).mono ?_); rintro e w2 ⟨rfl, hb⟩; have B2 := Aside0.mk (below_step B1.out hb); clear hb)
  | ((with_reducible refine gate_dst (N := 36) rfl ?_); refine lit_event ?hg (N := 36) ?hd (cs := #[.string s]) (t := 9) (n := 1) ?hr ?_; (case hd => rfl); (case hg => rfl); (case hr => first | (go_simp; done) | (go_simp; rfl)); intro g3 hg3 w3 hbox hb; have B3 := Aside0.mk (below_step B2.out hb); have C3 := Aside0.mk (Kd.R_reads' (R_texts (base := 0) (xs := [s]) hbox (Nat.zero_le _) (show 1 ≤ 1000 by decide) (show 0 < 1 by decide))).2.2; clear hg3 hbox hb)
  | (go_at_call 24; (with_reducible refine (topo_line_ok HTO.out HFW.out _ _ C3.out (Hand.Good.below true false HG.out B3.out rfl rfl)).mono ?_); rintro e w4 ⟨A1, c1, A2, c2, A3, c3, rfl, R1, R2, R3, hb⟩; have B4 := Aside0.mk (below_step B3.out hb); clear hb)
  | (go_at_call 22; (with_reducible refine (script_PrintTopo.calls kT A1 c1 T'.1 A2 c2 T'.2.1 A3 c3 T'.2.2 [s] _ (Hand.Good.below false true HG.out (below_alloc B4.out _) rfl rfl) (Kd.C_below R1.out.1 (below_alloc (Below.refl _ _) _)) R1.out.2 (Kd.C_below R2.out.1 (below_alloc (Below.refl _ _) _)) R2.out.2 (Kd.C_below R3.out.1 (below_alloc (Below.refl _ _) _)) R3.out.2 HPT.out).mono ?_); rintro e w5 ⟨v5, rfl, hr, hb⟩; obtain ⟨A5, c5, e5⟩ := Kd.R_slice hr; subst e5; obtain ⟨ad5, ead5, hx5⟩ := Kd.at_string (Kd.R_reads' hr).2.2 0 (by decide) (show (0 : Int) < (([s] : List ByteArray).length : Int) from (by decide : (0 : Int) < 1)); cases ead5; replace hx5 : w5.cell? ad5 = some (.string s) := hx5; have B5 := Aside0.mk (below_step (below_alloc B4.out _) hb); clear hr hb)
  | (go_at_call 28; (with_reducible refine (script_Change.calls kC s false 0 0 0 0 0 0 eg _ (Hand.Good.below true false HG.out B5.out rfl rfl) HCH.out).mono ?_); rintro e w6 ⟨rfl, hb⟩; have B6 := Aside0.mk (below_step B5.out hb); clear hb)
  | (go_at_call 21; (with_reducible refine (crossbucklaw25_awake.calls kA true _ (Hand.Good.below true false HG.out (below_alloc B6.out _) rfl rfl) HAW.out).mono ?_); rintro e w9 ⟨rfl, hb⟩; have B9 := Aside0.mk (below_step (below_alloc B6.out _) hb); have BO9 := Aside0.mk (blk_below (g := w6.heap.size) (o := .cells #[.bool false, .int .i64 0, .int .i64 0, .int .u32 0, .int .i64 0, .int .i64 0, .int .i64 0] 46 (0, 0)) (blk_new w6 _) hb); have zz := cz7 BO9.out; clear hb))
 go_ret
 exact ⟨rfl, B9.out⟩
set_option maxHeartbeats 4000000 in
set_option maxRecDepth 100000 in
theorem reads_ooo (kA kT kC kP : Nat) (ec et eg : Int) (T' : Lists) (q : S46) (s : ByteArray) (w : World) (hG : Hand.Good true true w) (hK : Kinds w) (h : s.size ≤ 600) (haw : crossbucklaw25_awake.f kA = some true) (hca : COk s) (h0 : 0 < s.size) (hto : Adds s ([], [], []) T') (hfw : T'.few 1000) (hpt : script_PrintTopo.f kT T'.1 T'.2.1 T'.2.2 = some [s]) (hch : script_Change.f kC s = some (q.f0, q.f1.f0, q.f1.f1, q.f1.f2.f0, q.f1.f2.f1, q.f1.f3, q.f1.f4, 0)) (hpc : prC kP q = some s) :
  Calls Tryd.prog 4 #[.string s] w fun e w' => e = .returned (.bool true) ∧ Below w.heap.size w w' := by
 have HG := Aside0.mk hG
 have HK := Aside0.mk hK
 have HAW := Aside0.mk haw
 have HCA := Aside0.mk hca
 have HTO := Aside0.mk hto
 have HCH := Aside0.mk hch
 have B0 := Aside0.mk (Below.refl w.heap.size w)
 have q0 : decide (600 < s.size) = false := decide_eq_false (by omega)
 have q1 : decide ((600 : Int) < (s.size : Int)) = false := decide_eq_false (by omega)
 have ss : (s.toList == s.toList) = true := beq_self_eq_true _
 have ss2 : (s.toList != s.toList) = false := bne_self_eq_false _
 have hs0 : (s.toList == []) = false := by
  rw [ByteArray.toList_eq]
  have : s.data.toList.length = s.size := by simp
  cases hd : s.data.toList with
  | nil => rw [hd] at this; simp at this; omega
  | cons x y => rfl
 have HFW := Aside0.mk hfw
 have HPT := Aside0.mk hpt
 have HPC := Aside0.mk hpc
 clear h hG hK haw hca hto hch h0 hfw hpt hpc
 go_enter Tryd.func4, Tryd.ntmps4
 go_wp2_with (first
  | (go_at_call 26; (with_reducible refine (HCA.out _ (Hand.Good.below true true HG.out B0.out rfl rfl) (HK.out.below B0.out)).mono ?_); rintro e w1 ⟨ty, vv, rfl, hb, hp⟩; have HP := Aside0.mk hp; have B1 := Aside0.mk (below_step B0.out hb); clear hb hp)
  | (go_at_call 27; (with_reducible refine (HP.out _ (Below.refl _ _)).mono ?_); rintro e w2 ⟨rfl, hb⟩; have B2 := Aside0.mk (below_step B1.out hb); clear hb)
  | ((with_reducible refine gate_dst (N := 36) rfl ?_); refine lit_event ?hg (N := 36) ?hd (cs := #[.string s]) (t := 9) (n := 1) ?hr ?_; (case hd => rfl); (case hg => rfl); (case hr => first | (go_simp; done) | (go_simp; rfl)); intro g3 hg3 w3 hbox hb; have B3 := Aside0.mk (below_step B2.out hb); have C3 := Aside0.mk (Kd.R_reads' (R_texts (base := 0) (xs := [s]) hbox (Nat.zero_le _) (show 1 ≤ 1000 by decide) (show 0 < 1 by decide))).2.2; clear hg3 hbox hb)
  | (go_at_call 24; (with_reducible refine (topo_line_ok HTO.out HFW.out _ _ C3.out (Hand.Good.below true false HG.out B3.out rfl rfl)).mono ?_); rintro e w4 ⟨A1, c1, A2, c2, A3, c3, rfl, R1, R2, R3, hb⟩; have B4 := Aside0.mk (below_step B3.out hb); clear hb)
  | (go_at_call 22; (with_reducible refine (script_PrintTopo.calls kT A1 c1 T'.1 A2 c2 T'.2.1 A3 c3 T'.2.2 [s] _ (Hand.Good.below false true HG.out (below_alloc B4.out _) rfl rfl) (Kd.C_below R1.out.1 (below_alloc (Below.refl _ _) _)) R1.out.2 (Kd.C_below R2.out.1 (below_alloc (Below.refl _ _) _)) R2.out.2 (Kd.C_below R3.out.1 (below_alloc (Below.refl _ _) _)) R3.out.2 HPT.out).mono ?_); rintro e w5 ⟨v5, rfl, hr, hb⟩; obtain ⟨A5, c5, e5⟩ := Kd.R_slice hr; subst e5; obtain ⟨ad5, ead5, hx5⟩ := Kd.at_string (Kd.R_reads' hr).2.2 0 (by decide) (show (0 : Int) < (([s] : List ByteArray).length : Int) from (by decide : (0 : Int) < 1)); cases ead5; replace hx5 : w5.cell? ad5 = some (.string s) := hx5; have B5 := Aside0.mk (below_step (below_alloc B4.out _) hb); clear hr hb)
  | (go_at_call 28; (with_reducible refine (script_Change.calls kC s q.f0 q.f1.f0 q.f1.f1 q.f1.f2.f0 q.f1.f2.f1 q.f1.f3 q.f1.f4 0 _ (Hand.Good.below true false HG.out B5.out rfl rfl) HCH.out).mono ?_); rintro e w6 ⟨rfl, hb⟩; have B6 := Aside0.mk (below_step B5.out hb); clear hb)
  | (go_at_call 21; (with_reducible refine (crossbucklaw25_awake.calls kA true _ (Hand.Good.below true false HG.out (below_alloc B6.out _) rfl rfl) HAW.out).mono ?_); rintro e w9 ⟨rfl, hb⟩; have B9 := Aside0.mk (below_step (below_alloc B6.out _) hb); have BO9 := Aside0.mk (blk_below (g := w6.heap.size) (o := .cells #[.bool q.f0, .int .i64 q.f1.f0, .int .i64 q.f1.f1, .int .u32 q.f1.f2.f0, .int .i64 q.f1.f2.f1, .int .i64 q.f1.f3, .int .i64 q.f1.f4] 46 (0, 0)) (blk_new w6 _) hb); have zz := cz7 BO9.out; clear hb)
  | (go_at_call 29; (with_reducible refine (script_PrintChange.calls kP q.f0 q.f1.f0 q.f1.f1 q.f1.f2.f0 q.f1.f2.f1 q.f1.f3 q.f1.f4 s _ (Hand.Good.below false true HG.out B9.out rfl rfl) HPC.out).mono ?_); rintro e w10 ⟨rfl, hb⟩; have B10 := Aside0.mk (below_step B9.out hb); clear hb))
 go_ret
 exact ⟨rfl, B10.out⟩


open Go.Proofs.YtloclimoffhbhaaDoor.Scr Go.Proofs.YtloclimoffhbhaaDoor.Facts Go.Proofs.YtloclimoffhbhaaDoor.Bits
/-! ### crossbucklaw25_ScriptReads: function 4 (by hand) -/
def crossbucklaw25_ScriptReads.f (a0 : ByteArray) : Option Bool := if a0.size ≤ 140737488355328 then some true else none
theorem reads_all (s : ByteArray) (w : World) (hG : Hand.Good true true w) (hK : Kinds w) : Calls Tryd.prog 4 #[.string s] w fun e w' => e = .returned (.bool true) ∧ Below w.heap.size w w' := by
 obtain ⟨kA, hA⟩ := awake25_ev.rounds
 by_cases h6 : 600 < s.size
 ·exact reads_many kA s w hG h6 hA
 have hs : s.size ≤ 600 := by omega
 have hB : B s.data.toList = s := (B_of rfl).symm
 have hch : (∃ k eg, eg ≠ 0 ∧ script_Change.f k s = some (false, 0, 0, 0, 0, 0, 0, eg)) ∨ (∃ k kP q, script_Change.f k s = some (q.f0, q.f1.f0, q.f1.f1, q.f1.f2.f0, q.f1.f2.f1, q.f1.f3, q.f1.f4, 0) ∧ prC kP q = some s) := by
  obtain ⟨q, e, hq, hz, hok⟩ := change_all (show s.size ≤ 1000 by omega)
  obtain ⟨k, hq⟩ := hq.rounds
  by_cases h0 : e = 0
  ·subst h0
   obtain ⟨hb, hr, ht⟩ := hok rfl
   obtain ⟨kP, hp⟩ := (print_ev hb hr).rounds
   exact .inr ⟨k, kP, q, hq, by rw [ht]; exact hp⟩
  ·rw [hz h0] at hq
   exact .inl ⟨k, e, h0, hq⟩
 have hto : (∃ er, er ≠ 0 ∧ Fails s er) ∨ (∃ k T', Adds s ([], [], []) T' ∧ Lists.few T' 1000 ∧ script_PrintTopo.f k T'.1 T'.2.1 T'.2.2 = some [s]) := by
  rcases line_all (show s.size ≤ 1000 by omega) with ⟨er, h⟩ | ⟨T', h1, h2, h3⟩
  ·exact .inl ⟨er, h.1, h⟩
  ·obtain ⟨k, hp⟩ := (printTopo_ev h2).rounds
   rw [h3, List.map_cons, List.map_nil, hB] at hp
   obtain ⟨f1, f2, f3⟩ := h2.few
   exact .inr ⟨k, T', h1, ⟨by omega, by omega, by omega⟩, hp⟩
 rcases call_all hs with ⟨ec, hec, hca⟩ | ⟨h0, hca⟩ <;> rcases hto with ⟨et, het, hto⟩ | ⟨kT, T', hto, hfw, hpt⟩ <;> rcases hch with ⟨kC, eg, heg, hch⟩ | ⟨kC, kP, q, hch, hpc⟩
 ·exact reads_bbb kA 0 kC 0 ec et eg ([], [], []) zeroC s w hG hK hs hA hca hec hto het hch heg
 ·exact reads_bbo kA 0 kC kP ec et 0 ([], [], []) q s w hG hK hs hA hca hec hto het hch hpc
 ·exact reads_bob kA kT kC 0 ec 0 eg T' zeroC s w hG hK hs hA hca hec hto hfw hpt hch heg
 ·exact reads_boo kA kT kC kP ec 0 0 T' q s w hG hK hs hA hca hec hto hfw hpt hch hpc
 ·exact reads_obb kA 0 kC 0 0 et eg ([], [], []) zeroC s w hG hK hs hA hca h0 hto het hch heg
 ·exact reads_obo kA 0 kC kP 0 et 0 ([], [], []) q s w hG hK hs hA hca h0 hto het hch hpc
 ·exact reads_oob kA kT kC 0 0 0 eg T' zeroC s w hG hK hs hA hca h0 hto hfw hpt hch heg
 ·exact reads_ooo kA kT kC kP 0 0 0 T' q s w hG hK hs hA hca h0 hto hfw hpt hch hpc
theorem crossbucklaw25_ScriptReads.calls (a0 : ByteArray) (r : Bool) (w : World) (hG : Hand.Good true true w) (hK : Kinds w) (h : crossbucklaw25_ScriptReads.f a0 = some r) : Calls Tryd.prog 4 #[.string a0] w fun e w' => e = .returned (.bool r) ∧ Below w.heap.size w w' := by
 unfold crossbucklaw25_ScriptReads.f at h
 split at h
 ·obtain rfl := Option.some.inj h
  exact reads_all a0 w hG hK
 ·cases h

end Go.Proofs.YtloclimoffhbhaaDoor.PSre
