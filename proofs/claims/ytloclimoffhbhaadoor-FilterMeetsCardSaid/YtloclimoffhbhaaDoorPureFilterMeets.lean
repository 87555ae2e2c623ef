/- crossbucklaw04.FilterMeets answers true for every two filters and header: as numbers. No condition of its own. -/
import Derived.Test.YtloclimoffhbhaaDoorFactsF2
import Derived.Test.YtloclimoffhbhaaDoorFactsM
import Derived.Test.YtloclimoffhbhaaDoorAwake04
import Derived.Test.YtloclimoffhbhaaDoorDec
import Derived.Test.YtloclimoffhbhaaDoorPFyx0
import Derived.Test.YtloclimoffhbhaaDoorPFyx7
import Derived.Test.YtloclimoffhbhaaDoorPFyx8
namespace Go.Proofs.YtloclimoffhbhaaDoor.Pure
open Go Go.RowKit Go.Proofs.YtloclimoffhbhaaDoor.PFy Go.Proofs.YtloclimoffhbhaaDoorW.PrintWords Go.Proofs.YtloclimoffhbhaaDoorW.PrintLast Go.Proofs.YtloclimoffhbhaaDoorW.PrintMore Go.Proofs.YtloclimoffhbhaaDoor.Bits Go.Proofs.YtloclimoffhbhaaDoor.Facts Go.Proofs.YtloclimoffhbhaaDoor.Dec
set_option linter.unusedVariables false

theorem u32_bd {a : Int} (h : (Lit.int .u32 a).wf = true) : 0 ≤ a ∧ a < 4294967296 := by
  have := wf_u32 h
  have e : (2 : Int) ^ 32 = 4294967296 := rfl
  rw [e] at this
  exact this
theorem u16_bd {a : Int} (h : (Lit.int .u16 a).wf = true) : 0 ≤ a ∧ a < 65536 := by
  have := wf_u16 h
  have e : (2 : Int) ^ 16 = 65536 := rfl
  rw [e] at this
  exact this
theorem u8_bd {a : Int} (h : (Lit.int .u8 a).wf = true) : 0 ≤ a ∧ a < 256 := by
  have := wf_u8 h
  have e : (2 : Int) ^ 8 = 256 := rfl
  rw [e] at this
  exact this
/-- A filter that may be. -/
structure Ok (f : Flt) : Prop where
  bd : f.bd
  r1 : rightB f.da f.db = true
  r2 : rightB f.sa f.sb = true
  p0 : -1 ≤ f.pr
  p1 : f.pr ≤ 255
  l1 : f.sl ≤ f.sh
  l2 : f.dl ≤ f.dh
theorem Ok.of {f : Flt} (h : f.bd) (c : checkV f = 0) : Ok f := by
  obtain ⟨a, b, c, d, e, g⟩ := checkV_zero.1 c
  exact ⟨h, a, b, c, d, e, g⟩
/-- The least header. -/
def least (f : Flt) : Hdr := ⟨f.da, f.sa, if f.pr < 0 then 0 else f.pr, f.sl, f.dl⟩
theorem mx_pr {f : Flt} (o : Ok f) : mx f.pr 0 % 256 = if f.pr < 0 then 0 else f.pr := by
  have := o.p0
  have := o.p1
  unfold mx
  split <;> omega
theorem some_eq {f : Flt} (o : Ok f) : filter_Some.f f.da f.db f.sa f.sb f.pr f.sl f.sh f.dl f.dh = some ((least f).dst, (least f).src, (least f).pr, (least f).sp, (least f).dp) := by
  unfold filter_Some.f
  rw [mx_pr o]
  rfl
theorem least_bd {f : Flt} (o : Ok f) : (least f).bd := by
  obtain ⟨⟨a, b, c, d, e, g⟩, _, _, p0, p1, _, _⟩ := o
  refine ⟨a, b, ?_, c, e⟩
  show 0 ≤ (if f.pr < 0 then (0 : Int) else f.pr) ∧ (if f.pr < 0 then (0 : Int) else f.pr) < 256
  split <;> omega
theorem matchB_iff {f : Flt} {h : Hdr} : matchB f h = true ↔ (f.pr = -1 ∨ f.pr = h.pr) ∧ (f.sl ≤ h.sp ∧ h.sp ≤ f.sh) ∧ (f.dl ≤ h.dp ∧ h.dp ≤ f.dh) ∧ hasB f.da f.db h.dst = true ∧ hasB f.sa f.sb h.src = true := by
  unfold matchB restB
  simp [and_assoc]
theorem least_match {f : Flt} (o : Ok f) : matchB f (least f) = true := by
  rw [matchB_iff]
  refine ⟨?_, ⟨Int.le_refl _, o.l1⟩, ⟨Int.le_refl _, o.l2⟩, hasB_self _ _, hasB_self _ _⟩
  have := o.p0
  show f.pr = -1 ∨ f.pr = if f.pr < 0 then (0 : Int) else f.pr
  split <;> omega
theorem has_ge {a b x : Int} (r : rightB a b = true) (h : hasB a b x = true) : a ≤ x := by
  obtain ⟨_, _, e⟩ := rightB_iff.1 r
  have h' := hasB_iff.1 h
  have hs := sz_pos b
  have h1 := Int.ediv_mul_add_emod a (sz b)
  have h2 := Int.ediv_mul_add_emod x (sz b)
  have h3 := Int.emod_nonneg x (by omega : sz b ≠ 0)
  rw [h'] at h2
  omega
structure Le (s h : Hdr) : Prop where
  a : s.dst ≤ h.dst
  b : s.src ≤ h.src
  c : s.pr ≤ h.pr
  d : s.sp ≤ h.sp
  e : s.dp ≤ h.dp
theorem least_le {f : Flt} {h : Hdr} (o : Ok f) (hh : h.bd) (m : matchB f h = true) : Le (least f) h := by
  obtain ⟨p, ⟨q, _⟩, ⟨r, _⟩, s, t⟩ := matchB_iff.1 m
  refine ⟨has_ge o.r1 s, has_ge o.r2 t, ?_, q, r⟩
  have := hh.2.2.1.1
  show (if f.pr < 0 then (0 : Int) else f.pr) ≤ h.pr
  split <;> omega

/-! ### Order -/
def sg (x y : Int) : Int := if x < y then -1 else if y < x then 1 else 0
theorem sg_ge {x y : Int} (h : y ≤ x) : sg x y = 0 ∨ sg x y = 1 := by
  unfold sg
  rw [if_neg (by omega)]
  split
  · exact .inr rfl
  · exact .inl rfl
theorem cmp32 (a b : Int) : cmp_Compare_uint32.f a b = some (sg a b) := by
  unfold cmp_Compare_uint32.f cmp_isNaN_uint32.f sg
  simp only [Option.bind_some]
  by_cases c : a < b
  · simp [c]
  · by_cases d : b < a
    · simp [c, d]
    · simp [c, d]
theorem cmp16 (a b : Int) : cmp_Compare_uint16.f a b = some (sg a b) := by
  unfold cmp_Compare_uint16.f cmp_isNaN_uint16.f sg
  simp only [Option.bind_some]
  by_cases c : a < b
  · simp [c]
  · by_cases d : b < a
    · simp [c, d]
    · simp [c, d]
theorem cmp8 (a b : Int) : cmp_Compare_uint8.f a b = some (sg a b) := by
  unfold cmp_Compare_uint8.f cmp_isNaN_uint8.f sg
  simp only [Option.bind_some]
  by_cases c : a < b
  · simp [c]
  · by_cases d : b < a
    · simp [c, d]
    · simp [c, d]
theorem or_go (l : List Int) (hl : l.length = 5) (hz : ∀ x ∈ l, x = 0 ∨ x = 1) (k : Nat) : ∀ (d i : Nat), i + d = 5 → ∃ r, cmp_Or_int.l0 (k + d + 1) 0 l 5 i = some r ∧ 0 ≤ r := by
  intro d
  induction d with
  | zero => intro i h; exact ⟨0, by rw [Nat.add_zero, cmp_Or_int.l0, if_neg (by omega)], Int.le_refl _⟩
  | succ d ih =>
    intro i h
    have ew : wrap64 ((i : Int) + 1) = ((i + 1 : Nat) : Int) := by rw [wrap64_id _ (by omega) (by omega)]; simp
    have hi : i < l.length := by clear ew; omega
    have hr : rd l (i : Int) = l[i] := by simp [rd, hi]
    obtain ⟨r, h1, h2⟩ := ih (i + 1) (by clear ew; omega)
    rw [show k + (d + 1) + 1 = (k + d + 1) + 1 from rfl, cmp_Or_int.l0, if_pos (by clear ew; omega), if_pos (by clear ew; omega), if_pos (by clear ew; omega), hr, ew]
    rcases hz l[i] (List.getElem_mem hi) with e | e
    · exact ⟨r, by rw [if_pos e]; exact h1, h2⟩
    · exact ⟨1, by rw [e]; rfl, by decide⟩
theorem compare_ge (k : Nat) {s h : Hdr} (o : Le s h) : ∃ r, hdr_Compare.f (k + 6) h.dst h.src h.pr h.sp h.dp s.dst s.src s.pr s.sp s.dp = some r ∧ 0 ≤ r := by
  unfold hdr_Compare.f
  rw [cmp32, cmp32, cmp8, cmp16, cmp16]
  simp only [Option.bind_some]
  obtain ⟨r, h1, h2⟩ := or_go [sg h.dst s.dst, sg h.src s.src, sg h.pr s.pr, sg h.sp s.sp, sg h.dp s.dp] rfl (by
    intro x hx
    simp only [List.mem_cons, List.not_mem_nil, or_false] at hx
    rcases hx with rfl | rfl | rfl | rfl | rfl
    · exact sg_ge o.a
    · exact sg_ge o.b
    · exact sg_ge o.c
    · exact sg_ge o.d
    · exact sg_ge o.e) k 5 0 rfl
  refine ⟨r, ?_, h2⟩
  unfold cmp_Or_int.f
  rw [show k + 6 = k + 5 + 1 from rfl]
  have e : cmp_Or_int.l0 (k + 5 + 1) 0 [sg h.dst s.dst, sg h.src s.src, sg h.pr s.pr, sg h.sp s.sp, sg h.dp s.dp] (([sg h.dst s.dst, sg h.src s.src, sg h.pr s.pr, sg h.sp s.sp, sg h.dp s.dp] : List Int).length : Int) 0 = some r := h1
  rw [e]
  rfl

/-! ### Meeting -/
def touchB (a b c d : Int) : Bool := decide (mx a c ≤ mn b d)
theorem touch_iff {a b c d : Int} : touchB a b c d = true ↔ a ≤ b ∧ a ≤ d ∧ c ≤ b ∧ c ≤ d := by
  unfold touchB mx mn
  rw [decide_eq_true_iff]
  split <;> split <;> omega
def proB (f g : Flt) : Bool := f.pr == -1 || (g.pr == -1 || f.pr == g.pr)
def meetV (f g : Flt) : Bool := proB f g && (meetB f.da f.db g.da g.db && (meetB f.sa f.sb g.sa g.sb && (touchB f.sl f.sh g.sl g.sh && touchB f.dl f.dh g.dl g.dh)))
theorem fmeet_eq (k : Nat) {f g : Flt} (o : Ok f) (q : Ok g) : filter_Meet.f (k + 1) f.da f.db f.sa f.sb f.pr f.sl f.sh f.dl f.dh g.da g.db g.sa g.sb g.pr g.sl g.sh g.dl g.dh = some (meetV f g) := by
  obtain ⟨⟨a0, a1⟩, ⟨b0, b1⟩, _⟩ := o.bd
  obtain ⟨⟨c0, c1⟩, ⟨d0, d1⟩, _⟩ := q.bd
  obtain ⟨x0, x1, _⟩ := rightB_iff.1 o.r1
  obtain ⟨y0, y1, _⟩ := rightB_iff.1 o.r2
  obtain ⟨z0, z1, _⟩ := rightB_iff.1 q.r1
  obtain ⟨t0, t1, _⟩ := rightB_iff.1 q.r2
  have hj : ∀ b, filter_Meet.j0 (k + 1) b f.da f.db f.sa f.sb f.pr f.sl f.sh f.dl f.dh g.da g.db g.sa g.sb g.pr g.sl g.sh g.dl g.dh = some (b && (meetB f.da f.db g.da g.db && (meetB f.sa f.sb g.sa g.sb && (touchB f.sl f.sh g.sl g.sh && touchB f.dl f.dh g.dl g.dh)))) := by
    intro b
    rw [filter_Meet.j0]
    cases b
    · rfl
    · rw [if_pos rfl, meet_eq x0 x1 z0 z1 a0 a1 c0 c1, Option.bind_some, meet_eq y0 y1 t0 t1 b0 b1 d0 d1]
      unfold filter_touch.f
      cases meetB f.da f.db g.da g.db
      · rfl
      · cases meetB f.sa f.sb g.sa g.sb
        · rfl
        · simp only [if_true, Option.bind_some]
          unfold touchB
          by_cases e : mx f.sl g.sl ≤ mn f.sh g.sh
          · simp [e]
          · simp [e]
  unfold filter_Meet.f meetV proB
  by_cases c : f.pr = -1
  · rw [if_pos c, hj, c]; rfl
  · rw [if_neg c]
    by_cases d : g.pr = -1
    · rw [if_pos d, hj, d]
      simp
    · rw [if_neg d, hj, beq_eq_false_iff_ne.2 c, beq_eq_false_iff_ne.2 d]
      rfl
theorem meetV_iff {f g : Flt} : meetV f g = true ↔ (f.pr = -1 ∨ g.pr = -1 ∨ f.pr = g.pr) ∧ meetB f.da f.db g.da g.db = true ∧ meetB f.sa f.sb g.sa g.sb = true ∧ touchB f.sl f.sh g.sl g.sh = true ∧ touchB f.dl f.dh g.dl g.dh = true := by
  unfold meetV proB
  simp
theorem meetB_comm (a b c d : Int) : meetB a b c d = meetB c d a b := by unfold meetB; rw [Bool.or_comm]
theorem meetV_comm (f g : Flt) : meetV f g = meetV g f := by
  rw [Bool.eq_iff_iff, meetV_iff, meetV_iff, touch_iff, touch_iff, touch_iff, touch_iff, meetB_comm f.da, meetB_comm f.sa]
  constructor
  · rintro ⟨a, b, c, d, e⟩
    exact ⟨by omega, b, c, by omega, by omega⟩
  · rintro ⟨a, b, c, d, e⟩
    exact ⟨by omega, b, c, by omega, by omega⟩
theorem meetV_of {f g : Flt} {h : Hdr} (o : Ok f) (q : Ok g) (m : matchB f h = true) (n : matchB g h = true) : meetV f g = true := by
  obtain ⟨p1, s1, d1, a1, b1⟩ := matchB_iff.1 m
  obtain ⟨p2, s2, d2, a2, b2⟩ := matchB_iff.1 n
  rw [meetV_iff, touch_iff, touch_iff]
  exact ⟨by omega, meet_common (rightB_iff.1 o.r1).2.1 (rightB_iff.1 q.r1).2.1 a1 a2, meet_common (rightB_iff.1 o.r2).2.1 (rightB_iff.1 q.r2).2.1 b1 b2, by omega, by omega⟩
def both (f g : Flt) : Hdr := ⟨mx (least f).dst (least g).dst, mx (least f).src (least g).src, mx (least f).pr (least g).pr, mx (least f).sp (least g).sp, mx (least f).dp (least g).dp⟩
theorem mx_or (a b : Int) : mx a b = a ∨ mx a b = b := by unfold mx; split <;> simp
theorem both_bd {f g : Flt} (o : Ok f) (q : Ok g) : (both f g).bd := by
  obtain ⟨a, b, c, d, e⟩ := least_bd o
  obtain ⟨a', b', c', d', e'⟩ := least_bd q
  have key : ∀ (x y B : Int), 0 ≤ x ∧ x < B → 0 ≤ y ∧ y < B → 0 ≤ mx x y ∧ mx x y < B := by
    intro x y B h1 h2
    rcases mx_or x y with h | h <;> rw [h]
    · exact h1
    · exact h2
  exact ⟨key _ _ _ a a', key _ _ _ b b', key _ _ _ c c', key _ _ _ d d', key _ _ _ e e'⟩
theorem pre_both {a b c d : Int} (r : rightB a b = true) (s : rightB c d = true) (m : meetB a b c d = true) : hasB a b (mx a c) = true ∧ hasB c d (mx a c) = true := by
  rcases meetB_iff.1 m with ⟨_, h⟩ | ⟨_, h⟩
  · have := has_ge s h
    have e : mx a c = a := by unfold mx; split <;> omega
    rw [e]
    exact ⟨hasB_self _ _, h⟩
  · have := has_ge r h
    have e : mx a c = c := by unfold mx; split <;> omega
    rw [e]
    exact ⟨h, hasB_self _ _⟩
theorem both_match {f g : Flt} (o : Ok f) (q : Ok g) (m : meetV f g = true) : matchB f (both f g) = true ∧ matchB g (both f g) = true := by
  obtain ⟨p, a, b, c, d⟩ := meetV_iff.1 m
  rw [touch_iff] at c d
  obtain ⟨a1, a2⟩ := pre_both o.r1 q.r1 a
  obtain ⟨b1, b2⟩ := pre_both o.r2 q.r2 b
  have f0 := o.p0
  have g0 := q.p0
  have hs : f.sl ≤ mx f.sl g.sl ∧ g.sl ≤ mx f.sl g.sl ∧ mx f.sl g.sl ≤ f.sh ∧ mx f.sl g.sl ≤ g.sh := by unfold mx; split <;> omega
  have hd : f.dl ≤ mx f.dl g.dl ∧ g.dl ≤ mx f.dl g.dl ∧ mx f.dl g.dl ≤ f.dh ∧ mx f.dl g.dl ≤ g.dh := by unfold mx; split <;> omega
  have hp : (f.pr = -1 ∨ f.pr = mx (least f).pr (least g).pr) ∧ (g.pr = -1 ∨ g.pr = mx (least f).pr (least g).pr) := by
    show (f.pr = -1 ∨ f.pr = mx (if f.pr < 0 then (0 : Int) else f.pr) (if g.pr < 0 then (0 : Int) else g.pr)) ∧ (g.pr = -1 ∨ g.pr = mx (if f.pr < 0 then (0 : Int) else f.pr) (if g.pr < 0 then (0 : Int) else g.pr))
    unfold mx
    repeat' split
    all_goals omega
  rw [matchB_iff, matchB_iff]
  exact ⟨⟨hp.1, ⟨hs.1, hs.2.2.1⟩, ⟨hd.1, hd.2.2.1⟩, a1, b1⟩, ⟨hp.2, ⟨hs.2.1, hs.2.2.2⟩, ⟨hd.2.1, hd.2.2.2⟩, a2, b2⟩⟩
theorem rmatch {k : Nat} {f : Flt} {h : Hdr} (hk : 40 ≤ k) (o : Ok f) (hh : h.bd) : crossbuckref04_Match.f k f.da f.db f.sa f.sb f.pr f.sl f.sh f.dl f.dh h.dst h.src h.pr h.sp h.dp = some (matchB f h) :=
  match_eq hk o.bd hh (rightB_iff.1 o.r1).1 (rightB_iff.1 o.r1).2.1 (rightB_iff.1 o.r2).1 (rightB_iff.1 o.r2).2.1

/-! ### The law -/
theorem meets_2 {f g : Flt} (o : Ok f) (q : Ok g) (k : Nat) : crossbucklaw04_FilterMeets.j2 (k + 200 + 1) false f.da f.db f.sa f.sb f.pr f.sl f.sh f.dl f.dh g.da g.db g.sa g.sb g.pr g.sl g.sh g.dl g.dh (least f).dst (least f).src (least f).pr (least f).sp (least f).dp = some true := by
  have hm := fmeet_eq (k + 199) o q
  have hs := rmatch (k := k + 200) (by omega) q (least_bd o)
  have s1 := some_eq q
  rw [crossbucklaw04_FilterMeets.j2, if_neg (by decide), show k + 200 = k + 199 + 1 from rfl, hm, Option.bind_some]
  by_cases c : meetV f g = true
  · obtain ⟨m1, m2⟩ := both_match o q c
    have b1 := rmatch (k := k + 200) (by omega) o (both_bd o q)
    have b2 := rmatch (k := k + 200) (by omega) q (both_bd o q)
    rw [m1] at b1
    rw [m2] at b2
    rw [if_pos c, s1, Option.bind_some, awake04 (by omega), Option.bind_some, if_pos rfl]
    refine (congrArg (fun x => Option.bind x _) b1).trans ?_
    rw [Option.bind_some, if_pos rfl]
    refine (congrArg (fun x => Option.bind x _) b2).trans ?_
    rfl
  · have ns : matchB g (least f) = false := by
      cases h : matchB g (least f) with
      | false => rfl
      | true => exact absurd (meetV_of o q (least_match o) h) c
    rw [ns] at hs
    rw [if_neg c, awake04 (by omega), Option.bind_some, if_pos rfl, show k + 199 + 1 = k + 200 from rfl, hs, Option.bind_some, if_neg (by decide)]
    rfl
theorem meets_1 {f g : Flt} (o : Ok f) (q : Ok g) (k : Nat) : crossbucklaw04_FilterMeets.j1 (k + 200 + 1 + 1) false f.da f.db f.sa f.sb f.pr f.sl f.sh f.dl f.dh g.da g.db g.sa g.sb g.pr g.sl g.sh g.dl g.dh (least f).dst (least f).src (least f).pr (least f).sp (least f).dp = some true := by
  have e : meetV f f = true := meetV_of o o (least_match o) (least_match o)
  rw [crossbucklaw04_FilterMeets.j1, if_neg (by decide), fmeet_eq (k + 200) o q, Option.bind_some, fmeet_eq (k + 200) q o, Option.bind_some, meetV_comm g f, bne_self_eq_false, if_neg (by decide), fmeet_eq (k + 200) o o, Option.bind_some, e]
  exact meets_2 o q k
theorem meets_0 {f g : Flt} {h : Hdr} (o : Ok f) (q : Ok g) (hh : h.bd) (k : Nat) : crossbucklaw04_FilterMeets.j0 (k + 200 + 1 + 1 + 1) false f.da f.db f.sa f.sb f.pr f.sl f.sh f.dl f.dh g.da g.db g.sa g.sb g.pr g.sl g.sh g.dl g.dh h.dst h.src h.pr h.sp h.dp = some true := by
  have h1 := meets_1 o q k
  have ms := rmatch (k := k + 200 + 1 + 1) (by omega) o (least_bd o)
  have mf := rmatch (k := k + 200 + 1 + 1) (by omega) o hh
  have mg := rmatch (k := k + 200 + 1 + 1) (by omega) q hh
  rw [least_match o] at ms
  rw [crossbucklaw04_FilterMeets.j0, if_neg (by decide), some_eq o, Option.bind_some]
  refine (congrArg (fun x => Option.bind x _) ms).trans ?_
  rw [Option.bind_some, if_pos rfl, mf, Option.bind_some]
  by_cases c : matchB f h = true
  · obtain ⟨r, hr, hr0⟩ := compare_ge (k + 196) (least_le o hh c)
    rw [show k + 196 + 6 = k + 200 + 1 + 1 by omega] at hr
    rw [if_pos c]
    refine (congrArg (fun x => Option.bind x _) hr).trans ?_
    rw [Option.bind_some, if_neg (by omega), Option.bind_some, if_pos c, mg, Option.bind_some]
    by_cases d : matchB g h = true
    · rw [if_pos d, fmeet_eq (k + 200 + 1) o q, Option.bind_some, meetV_of o q c d]
      exact h1
    · rw [if_neg d]
      exact h1
  · rw [if_neg c, Option.bind_some, if_neg c]
    exact h1
theorem meets_out (k : Nat) (a0 a1 a2 a3 a4 a5 a6 a7 a8 b0 b1 b2 b3 b4 b5 b6 b7 b8 h0 h1 h2 h3 h4 : Int) : crossbucklaw04_FilterMeets.j0 (k + 200 + 1) true a0 a1 a2 a3 a4 a5 a6 a7 a8 b0 b1 b2 b3 b4 b5 b6 b7 b8 h0 h1 h2 h3 h4 = some true := by
  rw [crossbucklaw04_FilterMeets.j0, if_pos rfl, awake04 (by omega), Option.bind_some]
theorem FilterMeets (a0 a1 a2 a3 a4 a5 a6 a7 a8 b0 b1 b2 b3 b4 b5 b6 b7 b8 h0 h1 h2 h3 h4 : Int)
    (w0 : (Lit.int .u32 a0).wf = true) (w1 : (Lit.int .i64 a1).wf = true) (w2 : (Lit.int .u32 a2).wf = true) (w3 : (Lit.int .i64 a3).wf = true) (w4 : (Lit.int .i64 a4).wf = true)
    (w5 : (Lit.int .u16 a5).wf = true) (w6 : (Lit.int .u16 a6).wf = true) (w7 : (Lit.int .u16 a7).wf = true) (w8 : (Lit.int .u16 a8).wf = true)
    (v0 : (Lit.int .u32 b0).wf = true) (v1 : (Lit.int .i64 b1).wf = true) (v2 : (Lit.int .u32 b2).wf = true) (v3 : (Lit.int .i64 b3).wf = true) (v4 : (Lit.int .i64 b4).wf = true)
    (v5 : (Lit.int .u16 b5).wf = true) (v6 : (Lit.int .u16 b6).wf = true) (v7 : (Lit.int .u16 b7).wf = true) (v8 : (Lit.int .u16 b8).wf = true)
    (x0 : (Lit.int .u32 h0).wf = true) (x1 : (Lit.int .u32 h1).wf = true) (x2 : (Lit.int .u8 h2).wf = true) (x3 : (Lit.int .u16 h3).wf = true) (x4 : (Lit.int .u16 h4).wf = true) :
    ∃ k, crossbucklaw04_FilterMeets.f k a0 a1 a2 a3 a4 a5 a6 a7 a8 b0 b1 b2 b3 b4 b5 b6 b7 b8 h0 h1 h2 h3 h4 = some true := by
  have hf : Flt.bd ⟨a0, a1, a2, a3, a4, a5, a6, a7, a8⟩ := ⟨u32_bd w0, u32_bd w2, u16_bd w5, u16_bd w6, u16_bd w7, u16_bd w8⟩
  have hg : Flt.bd ⟨b0, b1, b2, b3, b4, b5, b6, b7, b8⟩ := ⟨u32_bd v0, u32_bd v2, u16_bd v5, u16_bd v6, u16_bd v7, u16_bd v8⟩
  have hh : Hdr.bd ⟨h0, h1, h2, h3, h4⟩ := ⟨u32_bd x0, u32_bd x1, u8_bd x2, u16_bd x3, u16_bd x4⟩
  refine ⟨0 + 200 + 1 + 1 + 1, ?_⟩
  have e1 := check_eq (k := 0 + 200 + 1 + 1 + 1) (f := ⟨a0, a1, a2, a3, a4, a5, a6, a7, a8⟩) (by omega) hf
  have e2 := check_eq (k := 0 + 200 + 1 + 1 + 1) (f := ⟨b0, b1, b2, b3, b4, b5, b6, b7, b8⟩) (by omega) hg
  unfold crossbucklaw04_FilterMeets.f
  refine (congrArg (fun x => Option.bind x _) e1).trans ?_
  rw [Option.bind_some]
  by_cases c : checkV ⟨a0, a1, a2, a3, a4, a5, a6, a7, a8⟩ = 0
  · rw [if_pos c]
    refine (congrArg (fun x => Option.bind x _) e2).trans ?_
    rw [Option.bind_some]
    by_cases d : checkV ⟨b0, b1, b2, b3, b4, b5, b6, b7, b8⟩ = 0
    · rw [d]
      exact meets_0 (Ok.of hf c) (Ok.of hg d) hh 0
    · rw [bne_iff_ne.2 d]
      exact meets_out 2 ..
  · rw [if_neg c]
    exact meets_out 2 ..
end Go.Proofs.YtloclimoffhbhaaDoor.Pure
