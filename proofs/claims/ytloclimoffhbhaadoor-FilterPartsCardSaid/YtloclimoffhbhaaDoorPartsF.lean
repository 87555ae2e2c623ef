/- The five parts of a filter, as numbers: what is wrong with them, whether they meet the filter of all, which headers pass. No condition of its own. -/
import Derived.Test.YtloclimoffhbhaaDoorFactsF3
import Derived.Test.YtloclimoffhbhaaDoorFactsG3
import Derived.Test.YtloclimoffhbhaaDoorFactsM
import Derived.Test.YtloclimoffhbhaaDoorAwake04
import Derived.Test.YtloclimoffhbhaaDoorDec
import Derived.Test.YtloclimoffhbhaaDoorPFqx0
import Derived.Test.YtloclimoffhbhaaDoorPFqx1
import Derived.Test.YtloclimoffhbhaaDoorPFqx5
import Derived.Test.YtloclimoffhbhaaDoorPFqx6
namespace Go.Proofs.YtloclimoffhbhaaDoor.Pure
open Go Go.RowKit Go.Proofs.YtloclimoffhbhaaDoor.PFq Go.Proofs.YtloclimoffhbhaaDoorW.PrintWords Go.Proofs.YtloclimoffhbhaaDoorW.PrintLast Go.Proofs.YtloclimoffhbhaaDoorW.PrintMore Go.Proofs.YtloclimoffhbhaaDoor.Bits Go.Proofs.YtloclimoffhbhaaDoor.Facts Go.Proofs.YtloclimoffhbhaaDoor.Dec
set_option linter.unusedVariables false

theorem u32_bd {a : Int} (h : (Lit.int .u32 a).wf = true) : 0 ≤ a ∧ a < 4294967296 := by
  have := wf_u32 h
  have e : (2 : Int) ^ 32 = 4294967296 := rfl
  rw [e] at this
  exact this
theorem u16_bd {a : Int} (h : (Lit.int .u16 a).wf = true) : 0 ≤ a ∧ a < 65536 := by
  have := wf_u16 h
  have e : (2 : Int) ^ 16 = 65536 := rfl
  rw [e] at this
  exact this
theorem u8_bd {a : Int} (h : (Lit.int .u8 a).wf = true) : 0 ≤ a ∧ a < 256 := by
  have := wf_u8 h
  have e : (2 : Int) ^ 8 = 256 := rfl
  rw [e] at this
  exact this
structure Ok (f : Flt) : Prop where
  bd : f.bd
  r1 : rightB f.da f.db = true
  r2 : rightB f.sa f.sb = true
  p0 : -1 ≤ f.pr
  p1 : f.pr ≤ 255
  l1 : f.sl ≤ f.sh
  l2 : f.dl ≤ f.dh
theorem Ok.of {f : Flt} (h : f.bd) (c : checkV f = 0) : Ok f := by
  obtain ⟨a, b, c, d, e, g⟩ := checkV_zero.1 c
  exact ⟨h, a, b, c, d, e, g⟩
def least (f : Flt) : Hdr := ⟨f.da, f.sa, if f.pr < 0 then 0 else f.pr, f.sl, f.dl⟩
theorem least_bd {f : Flt} (o : Ok f) : (least f).bd := by
  obtain ⟨⟨a, b, c, d, e, g⟩, _, _, p0, p1, _, _⟩ := o
  refine ⟨a, b, ?_, c, e⟩
  show 0 ≤ (if f.pr < 0 then (0 : Int) else f.pr) ∧ (if f.pr < 0 then (0 : Int) else f.pr) < 256
  split <;> omega
theorem matchB_iff {f : Flt} {h : Hdr} : matchB f h = true ↔ (f.pr = -1 ∨ f.pr = h.pr) ∧ (f.sl ≤ h.sp ∧ h.sp ≤ f.sh) ∧ (f.dl ≤ h.dp ∧ h.dp ≤ f.dh) ∧ hasB f.da f.db h.dst = true ∧ hasB f.sa f.sb h.src = true := by
  unfold matchB restB
  simp [and_assoc]
theorem least_match {f : Flt} (o : Ok f) : matchB f (least f) = true := by
  rw [matchB_iff]
  refine ⟨?_, ⟨Int.le_refl _, o.l1⟩, ⟨Int.le_refl _, o.l2⟩, hasB_self _ _, hasB_self _ _⟩
  have := o.p0
  show f.pr = -1 ∨ f.pr = if f.pr < 0 then (0 : Int) else f.pr
  split <;> omega
def touchB (a b c d : Int) : Bool := decide (mx a c ≤ mn b d)
theorem touch_iff {a b c d : Int} : touchB a b c d = true ↔ a ≤ b ∧ a ≤ d ∧ c ≤ b ∧ c ≤ d := by
  unfold touchB mx mn
  rw [decide_eq_true_iff]
  split <;> split <;> omega
def proB (f g : Flt) : Bool := f.pr == -1 || (g.pr == -1 || f.pr == g.pr)
def meetV (f g : Flt) : Bool := proB f g && (meetB f.da f.db g.da g.db && (meetB f.sa f.sb g.sa g.sb && (touchB f.sl f.sh g.sl g.sh && touchB f.dl f.dh g.dl g.dh)))
theorem fmeet_eq (k : Nat) {f g : Flt} (o : Ok f) (q : Ok g) : filter_Meet.f (k + 1) f.da f.db f.sa f.sb f.pr f.sl f.sh f.dl f.dh g.da g.db g.sa g.sb g.pr g.sl g.sh g.dl g.dh = some (meetV f g) := by
  obtain ⟨⟨a0, a1⟩, ⟨b0, b1⟩, _⟩ := o.bd
  obtain ⟨⟨c0, c1⟩, ⟨d0, d1⟩, _⟩ := q.bd
  obtain ⟨x0, x1, _⟩ := rightB_iff.1 o.r1
  obtain ⟨y0, y1, _⟩ := rightB_iff.1 o.r2
  obtain ⟨z0, z1, _⟩ := rightB_iff.1 q.r1
  obtain ⟨t0, t1, _⟩ := rightB_iff.1 q.r2
  have hj : ∀ b, filter_Meet.j0 (k + 1) b f.da f.db f.sa f.sb f.pr f.sl f.sh f.dl f.dh g.da g.db g.sa g.sb g.pr g.sl g.sh g.dl g.dh = some (b && (meetB f.da f.db g.da g.db && (meetB f.sa f.sb g.sa g.sb && (touchB f.sl f.sh g.sl g.sh && touchB f.dl f.dh g.dl g.dh)))) := by
    intro b
    rw [filter_Meet.j0]
    cases b
    · rfl
    · rw [if_pos rfl, meet_eq x0 x1 z0 z1 a0 a1 c0 c1, Option.bind_some, meet_eq y0 y1 t0 t1 b0 b1 d0 d1]
      unfold filter_touch.f
      cases meetB f.da f.db g.da g.db
      · rfl
      · cases meetB f.sa f.sb g.sa g.sb
        · rfl
        · simp only [if_true, Option.bind_some]
          unfold touchB
          by_cases e : mx f.sl g.sl ≤ mn f.sh g.sh
          · simp [e]
          · simp [e]
  unfold filter_Meet.f meetV proB
  by_cases c : f.pr = -1
  · rw [if_pos c, hj, c]; rfl
  · rw [if_neg c]
    by_cases d : g.pr = -1
    · rw [if_pos d, hj, d]
      simp
    · rw [if_neg d, hj, beq_eq_false_iff_ne.2 c, beq_eq_false_iff_ne.2 d]
      rfl
theorem meetV_iff {f g : Flt} : meetV f g = true ↔ (f.pr = -1 ∨ g.pr = -1 ∨ f.pr = g.pr) ∧ meetB f.da f.db g.da g.db = true ∧ meetB f.sa f.sb g.sa g.sb = true ∧ touchB f.sl f.sh g.sl g.sh = true ∧ touchB f.dl f.dh g.dl g.dh = true := by
  unfold meetV proB
  simp
theorem meetV_of {f g : Flt} {h : Hdr} (o : Ok f) (q : Ok g) (m : matchB f h = true) (n : matchB g h = true) : meetV f g = true := by
  obtain ⟨p1, s1, d1, a1, b1⟩ := matchB_iff.1 m
  obtain ⟨p2, s2, d2, a2, b2⟩ := matchB_iff.1 n
  rw [meetV_iff, touch_iff, touch_iff]
  exact ⟨by omega, meet_common (rightB_iff.1 o.r1).2.1 (rightB_iff.1 q.r1).2.1 a1 a2, meet_common (rightB_iff.1 o.r2).2.1 (rightB_iff.1 q.r2).2.1 b1 b2, by omega, by omega⟩
/-! ### The parts -/
def allF : Flt := ⟨0, 0, 0, 0, -1, 0, 65535, 0, 65535⟩
theorem ok_all : Ok allF := ⟨⟨⟨by decide, by decide⟩, ⟨by decide, by decide⟩, ⟨by decide, by decide⟩, ⟨by decide, by decide⟩, ⟨by decide, by decide⟩, ⟨by decide, by decide⟩⟩, by decide, by decide, by decide, by decide, by decide, by decide⟩
theorem has_all {x : Int} (h0 : 0 ≤ x) (h1 : x < 4294967296) : hasB 0 0 x = true := by
  have z : sz 0 = 4294967296 := by decide
  rw [hasB_iff, z]
  omega
theorem match_all {h : Hdr} (hh : h.bd) : matchB allF h = true := by
  obtain ⟨⟨a0, a1⟩, ⟨b0, b1⟩, _, ⟨d0, d1⟩, ⟨e0, e1⟩⟩ := hh
  rw [matchB_iff]
  exact ⟨.inl rfl, ⟨d0, by show h.sp ≤ 65535; omega⟩, ⟨e0, by show h.dp ≤ 65535; omega⟩, has_all a0 a1, has_all b0 b1⟩
/-- A filter in memory. -/
def toS (x : Flt) : S77 := ⟨⟨x.da, x.db⟩, ⟨x.sa, x.sb⟩, x.pr, ⟨x.sl, x.sh⟩, ⟨x.dl, x.dh⟩⟩
def p1 (f : Flt) : Flt := ⟨f.da, f.db, 0, 0, -1, 0, 65535, 0, 65535⟩
def p2 (f : Flt) : Flt := ⟨0, 0, f.sa, f.sb, -1, 0, 65535, 0, 65535⟩
def p3 (f : Flt) : Flt := ⟨0, 0, 0, 0, f.pr, 0, 65535, 0, 65535⟩
def p4 (f : Flt) : Flt := ⟨0, 0, 0, 0, -1, f.sl, f.sh, 0, 65535⟩
def p5 (f : Flt) : Flt := ⟨0, 0, 0, 0, -1, 0, 65535, f.dl, f.dh⟩
def parts (f : Flt) : List S77 := [toS (p1 f), toS (p2 f), toS (p3 f), toS (p4 f), toS (p5 f)]
theorem ok_p1 {f : Flt} (o : Ok f) : Ok (p1 f) := ⟨⟨o.bd.1, ok_all.bd.2⟩, o.r1, ok_all.r2, ok_all.p0, ok_all.p1, ok_all.l1, ok_all.l2⟩
theorem ok_p2 {f : Flt} (o : Ok f) : Ok (p2 f) := ⟨⟨ok_all.bd.1, o.bd.2.1, ok_all.bd.2.2⟩, ok_all.r1, o.r2, ok_all.p0, ok_all.p1, ok_all.l1, ok_all.l2⟩
theorem ok_p3 {f : Flt} (o : Ok f) : Ok (p3 f) := ⟨ok_all.bd, ok_all.r1, ok_all.r2, o.p0, o.p1, ok_all.l1, ok_all.l2⟩
theorem ok_p4 {f : Flt} (o : Ok f) : Ok (p4 f) := ⟨⟨ok_all.bd.1, ok_all.bd.2.1, o.bd.2.2.1, o.bd.2.2.2.1, ok_all.bd.2.2.2.2⟩, ok_all.r1, ok_all.r2, ok_all.p0, ok_all.p1, o.l1, ok_all.l2⟩
theorem ok_p5 {f : Flt} (o : Ok f) : Ok (p5 f) := ⟨⟨ok_all.bd.1, ok_all.bd.2.1, ok_all.bd.2.2.1, ok_all.bd.2.2.2.1, o.bd.2.2.2.2⟩, ok_all.r1, ok_all.r2, ok_all.p0, ok_all.p1, ok_all.l1, o.l2⟩
theorem parts_all {f : Flt} {h : Hdr} (hh : h.bd) : (((((true && matchB (p1 f) h) && matchB (p2 f) h) && matchB (p3 f) h) && matchB (p4 f) h) && matchB (p5 f) h) = matchB f h := by
  obtain ⟨⟨a0, a1⟩, ⟨b0, b1⟩, _, ⟨d0, d1⟩, ⟨e0, e1⟩⟩ := hh
  have ha := has_all a0 a1
  have hb := has_all b0 b1
  have hs : h.sp ≤ 65535 := by omega
  have hd : h.dp ≤ 65535 := by omega
  rw [Bool.eq_iff_iff]
  simp only [Bool.and_eq_true, matchB_iff, p1, p2, p3, p4, p5]
  constructor
  · rintro ⟨⟨⟨⟨⟨_, x1⟩, x2⟩, x3⟩, x4⟩, x5⟩
    exact ⟨x3.1, x4.2.1, x5.2.2.1, x1.2.2.2.1, x2.2.2.2.2⟩
  · rintro ⟨y1, y2, y3, y4, y5⟩
    refine ⟨⟨⟨⟨⟨trivial, ?_⟩, ?_⟩, ?_⟩, ?_⟩, ?_⟩
    · exact ⟨.inl trivial, ⟨d0, hs⟩, ⟨e0, hd⟩, y4, hb⟩
    · exact ⟨.inl trivial, ⟨d0, hs⟩, ⟨e0, hd⟩, ha, y5⟩
    · exact ⟨y1, ⟨d0, hs⟩, ⟨e0, hd⟩, ha, hb⟩
    · exact ⟨.inl trivial, y2, ⟨e0, hd⟩, ha, hb⟩
    · exact ⟨.inl trivial, ⟨d0, hs⟩, y3, ha, hb⟩
/-- The parts, by their places. -/
def pv (f : Flt) : Nat → Flt
  | 0 => p1 f
  | 1 => p2 f
  | 2 => p3 f
  | 3 => p4 f
  | _ => p5 f
theorem parts_at (f : Flt) {i : Nat} (hi : i < 5) : (parts f).getD i z77 = toS (pv f i) := by
  match i, hi with
  | 0, _ => rfl
  | 1, _ => rfl
  | 2, _ => rfl
  | 3, _ => rfl
  | 4, _ => rfl
theorem ok_pv {f : Flt} (o : Ok f) (i : Nat) : Ok (pv f i) := by
  match i with
  | 0 => exact ok_p1 o
  | 1 => exact ok_p2 o
  | 2 => exact ok_p3 o
  | 3 => exact ok_p4 o
  | n + 4 => exact ok_p5 o
/-- Whether a header passes the first i of the parts. -/
def acc (f : Flt) (h : Hdr) : Nat → Bool
  | 0 => true
  | i + 1 => acc f h i && matchB (pv f i) h
theorem acc_all {f : Flt} {h : Hdr} (hh : h.bd) : acc f h 5 = matchB f h := parts_all hh
theorem part_check {x : Flt} (o : Ok x) {k : Nat} (hk : 200 ≤ k) : filter_Check.f k x.da x.db x.sa x.sb x.pr x.sl x.sh x.dl x.dh = some 0 := by
  rw [tcheck_eq (f := x) (by omega) o.bd, checkV_zero.2 ⟨o.r1, o.r2, o.p0, o.p1, o.l1, o.l2⟩]
theorem part_meet {x : Flt} (o : Ok x) : filter_Meet.f 200 x.da x.db x.sa x.sb x.pr x.sl x.sh x.dl x.dh 0 0 0 0 (-1) 0 65535 0 65535 = some true := by
  have := fmeet_eq 199 o ok_all
  rw [meetV_of (h := least x) o ok_all (least_match o) (match_all (least_bd o))] at this
  exact this
theorem part_match {x : Flt} (o : Ok x) {h : Hdr} (hh : h.bd) : filter_Match.f x.da x.db x.sa x.sb x.pr x.sl x.sh x.dl x.dh h.dst h.src h.pr h.sp h.dp = some (matchB x h) := by
  obtain ⟨b0, b1, _⟩ := rightB_iff.1 o.r1
  obtain ⟨c0, c1, _⟩ := rightB_iff.1 o.r2
  exact tmatch_eq (f := x) (h := h) o.bd hh b0 b1 c0 c1
end Go.Proofs.YtloclimoffhbhaaDoor.Pure
