-- The walks of the chain's functions (version), by hand; the library's few by the print.
import Derived.Test.YtdemogdagemagaaPVcx0
namespace Go.Proofs.Ytdemogdagemagaa.PVc
open Go.RowKit Go.Proofs.YtdemogdagemagaaW.PrintWords Go.Proofs.YtdemogdagemagaaW.PrintLast Go.Proofs.YtdemogdagemagaaW.PrintMore
attribute [local go_sem] max2_int min2_int max_two min_two max_three min_three max_four min_four   -- for this text's walks alone
set_option linter.unusedVariables false
set_option linter.unusedSimpArgs false


def ViewS (w : World) (g : Nat) (its : List S105) (ps : List Int) : Prop := ∃ A0 c0 A1 c1, w.heap[g]? = some (.cells #[.slice A0 its.length c0, .slice A1 ps.length c1] 108 (0, 0)) ∧ its.length ≤ c0 ∧ ps.length ≤ c1 ∧ Kd.C k105 w A0 its.length its ∧ Kd.C (Kd.int .i64) w A1 ps.length ps
theorem ViewS.below {w w1 : World} {g : Nat} {its : List S105} {ps : List Int} (h : ViewS w g its ps) (hb : Below w.heap.size w w1) : ViewS w1 g its ps := by
  obtain ⟨A0, c0, A1, c1, h1, h2, h3, h4, h5⟩ := h
  exact ⟨A0, c0, A1, c1, blk_below h1 hb, h2, h3, Kd.C_below h4 hb, Kd.C_below h5 hb⟩
theorem cell108_0 {W : World} {g : Nat} {v0 v1 : Value} (h : W.heap[g]? = some (.cells #[v0, v1] 108 (0, 0))) : W.cell? ⟨g, 0, none⟩ = some v0 := (blk_cell h 0).trans rfl
theorem cell108_1 {W : World} {g : Nat} {v0 v1 : Value} (h : W.heap[g]? = some (.cells #[v0, v1] 108 (0, 0))) : W.cell? ⟨g, 1, none⟩ = some v1 := (blk_cell h 1).trans rfl
def lastES (its : List S105) : Int := (rd_T105 its ((its.length : Int) - 1)).f0
set_option maxHeartbeats 8000000 in
set_option maxRecDepth 100000 in
theorem lastS_.calls (g : Nat) (its : List S105) (ps : List Int) (w : World) (hV : ViewS w g its ps) (h0 : 0 < its.length) (h1 : its.length ≤ 1000000) :
    Calls Try.prog 67 #[.pointer (some ⟨g, 0, none⟩)] w fun e w' => e = .returned (.int .i64 (lastES its)) ∧ Below w.heap.size w w' := by
  have HB := Aside0.mk (Below.refl w.heap.size w)
  obtain ⟨A0, c0, A1, c1, hb, hc0, hc1, hr0, hr1⟩ := hV
  have hz0 := cell108_0 hb
  have hz1 := cell108_1 hb
  obtain ⟨ji, hj⟩ : ∃ j : Int, j = (its.length : Int) - 1 := ⟨_, rfl⟩
  have hji : IntKind.i64.wrap ((its.length : Int) - 1) = ji := by rw [hj]; exact w64_len h0 h1
  have p : 0 ≤ ji := by omega
  have q : ji < (its.length : Int) := by omega
  unfold lastES
  rw [← hj]
  clear hj
  obtain ⟨ad, e1, hx0, hx1⟩ := at_T105 hr0 ji p q
  cases e1
  clear h0 h1 hb hc0 hc1 hr0 hr1
  replace p := eq_true p
  replace q := eq_true q
  go_enter Try.func67, Try.ntmps67
  go_wp2
  repeat (go_quiet (fail); try go_wp2)
  go_ret
  exact ⟨rfl, by repeat (first | (with_reducible first | exact HB.out | apply below_alloc | apply pw_below_drewN | apply below_drew1) | exact HB.out)⟩

def atGoS (its : List S105) (e : Int) : Nat → Int
  | 0 => -1
  | i + 1 => if (rd_T105 its (i : Int)).f0 ≤ e then (i : Int) else atGoS its e i
def atES (its : List S105) (e : Int) : Int := atGoS its e its.length
set_option maxHeartbeats 8000000 in
set_option maxRecDepth 100000 in
theorem atS_.calls (g : Nat) (its : List S105) (ps : List Int) (a1 r : Int) (w : World) (hV : ViewS w g its ps) (h0 : 0 < its.length) (h1 : its.length ≤ 1000000) (h : atES its a1 = r) :
    Calls Try.prog 60 #[.pointer (some ⟨g, 0, none⟩), .int .i64 a1] w fun e w' => e = .returned (.int .i64 r) ∧ Below w.heap.size w w' := by
  have HB := Aside0.mk (Below.refl w.heap.size w)
  obtain ⟨A0, c0, A1, c1, hb, hc0, hc1, hr0, hr1⟩ := hV
  have hz0 := cell108_0 hb
  have hz1 := cell108_1 hb
  obtain ⟨ji, hj⟩ : ∃ j : Int, j = (its.length : Int) - 1 := ⟨_, rfl⟩
  have hji : IntKind.i64.wrap ((its.length : Int) - 1) = ji := by rw [hj]; exact w64_len h0 h1
  have HJ := Aside0.mk hj
  have HR0 := Aside0.mk hr0
  have HA := Aside0.mk h
  have H1 := Aside0.mk h1
  clear hj h h0 h1 hb hc0 hc1 hr0 hr1
  go_enter Try.func60, Try.ntmps60
  go_wp2
  go_loopg [5] its.length (fun kq v5 w' => ∃ x5 : Int, v5 = .int .i64 x5 ∧ Aside0 (x5 = (kq : Int) - 1) ∧ Aside0 (kq ≤ its.length) ∧ Aside0 (atGoS its a1 kq = r) ∧ Drawn0 w w')
  case atStart => exact ⟨ji, rfl, HJ, ⟨Nat.le_refl _⟩, HA, by repeat (first | exact Drawn0.refl _ | apply Drawn0.step)⟩
  case round =>
    clear HA HJ hji
    obtain ⟨x5, rfl, HX, HK, HA, ⟨m1, rfl⟩⟩ := hrel
    cases gk with
    | zero =>
      have hx := HX.out
      have c : decide (0 ≤ x5) = false := decide_eq_false (by omega)
      have HE : -1 = r := HA.out
      subst HE
      clear hx HX HA
      go_wp2
      go_ret
      exact ⟨rfl, by repeat (first | (with_reducible first | exact HB.out | apply below_alloc | apply pw_below_drewN | apply below_drew1) | exact HB.out)⟩
    | succ k =>
      have hx : x5 = (k : Int) := by have := HX.out; omega
      have hk := HK.out
      have c : decide (0 ≤ x5) = true := decide_eq_true (by omega)
      have p : 0 ≤ x5 := by omega
      have q : x5 < (its.length : Int) := by omega
      have HA2 : (if (rd_T105 its x5).f0 ≤ a1 then x5 else atGoS its a1 k) = r := by rw [hx]; exact HA.out
      have HX2 := Aside0.mk hx
      obtain ⟨ad, e1, hx0, hx1⟩ := at_T105 HR0.out x5 p q
      cases e1
      replace p := eq_true p
      replace q := eq_true q
      clear hx HX HA hk
      by_cases c2 : (rd_T105 its x5).f0 ≤ a1
      · have c2b := decide_eq_true c2
        rw [if_pos c2] at HA2
        clear c2
        subst HA2
        go_wp2
        go_ret
        exact ⟨rfl, by repeat (first | (with_reducible first | exact HB.out | apply below_alloc | apply pw_below_drewN | apply below_drew1) | exact HB.out)⟩
      · have c2b := decide_eq_false c2
        rw [if_neg c2] at HA2
        clear c2
        have HA3 := Aside0.mk HA2
        clear HA2
        go_wp2
        go_roundg k
        case measure => omega
        case rel => exact ⟨_, rfl, ⟨by have := HX2.out; have := HK.out; have := H1.out; rw [wrap64_id _ (by omega) (by omega)]; omega⟩, ⟨by have := HK.out; omega⟩, HA3, by repeat (first | exact Drawn0.refl _ | apply Drawn0.step)⟩

theorem ViewS.drewN {w : World} {g : Nat} {its : List S105} {ps : List Int} (h : ViewS w g its ps) (m : Nat) : ViewS (w.drewN m) g its ps := h.below (pw_below_drewN (Below.refl _ _) m)
theorem ViewS.drew {w : World} {g : Nat} {its : List S105} {ps : List Int} (h : ViewS w g its ps) : ViewS w.drew g its ps := h.drewN 1
theorem ViewS.c0 {w : World} {g : Nat} {its : List S105} {ps : List Int} (h : ViewS w g its ps) : ∃ A0 c0, w.cell? ⟨g, 0, none⟩ = some (.slice A0 its.length c0) ∧ its.length ≤ c0 ∧ Kd.C k105 w A0 its.length its := by
  obtain ⟨A0, c0, A1, c1, hb, hc0, hc1, hr0, hr1⟩ := h
  exact ⟨A0, c0, cell108_0 hb, hc0, hr0⟩
theorem ViewS.c1 {w : World} {g : Nat} {its : List S105} {ps : List Int} (h : ViewS w g its ps) : ∃ A1 c1, w.cell? ⟨g, 1, none⟩ = some (.slice A1 ps.length c1) ∧ ps.length ≤ c1 ∧ Kd.C (Kd.int .i64) w A1 ps.length ps := by
  obtain ⟨A0, c0, A1, c1, hb, hc0, hc1, hr0, hr1⟩ := h
  exact ⟨A1, c1, cell108_1 hb, hc1, hr1⟩
def hasES (its : List S105) (ps : List Int) (a : Int) : Bool := decide (lastES its ≤ a) || decide (a ∈ ps)
set_option maxHeartbeats 8000000 in
set_option maxRecDepth 100000 in
theorem hasS_.calls (g : Nat) (its : List S105) (ps : List Int) (a1 : Int) (r : Bool) (w : World) (hV : ViewS w g its ps) (h0 : 0 < its.length) (h1 : its.length ≤ 1000000) (h2 : ps.length ≤ 1000000) (h : hasES its ps a1 = r) :
    Calls Try.prog 59 #[.pointer (some ⟨g, 0, none⟩), .int .i64 a1] w fun e w' => e = .returned (.bool r) ∧ Below w.heap.size w w' := by
  have HB := Aside0.mk (Below.refl w.heap.size w)
  have HV := Aside0.mk hV
  clear hV
  by_cases c : lastES its ≤ a1
  · have cb := decide_eq_true c
    have hr : r = true := by rw [← h]; simp [hasES, cb]
    subst hr
    clear h c
    go_enter Try.func59, Try.ntmps59
    go_wp2_with (first
      | (go_at_call 67; (with_reducible refine (lastS_.calls g its ps _ ?side1 h0 h1).mono ?_); (case side1 => repeat (first | exact HV.out | apply ViewS.drewN | apply ViewS.drew)); rintro e w8 ⟨rfl, hb8⟩; have HB8 := Aside0.mk (below_step HB.out hb8); clear hb8))
    go_ret
    exact ⟨rfl, by repeat (first | (with_reducible first | exact HB8.out | apply below_alloc | apply pw_below_drewN | apply below_drew1) | exact HB8.out)⟩
  · have cb := decide_eq_false c
    have hr : r = decide (a1 ∈ ps) := by rw [← h]; simp [hasES, cb]
    subst hr
    clear h c
    go_enter Try.func59, Try.ntmps59
    go_wp2_with (first
      | (go_at_call 67; (with_reducible refine (lastS_.calls g its ps _ ?side1 h0 h1).mono ?_); (case side1 => repeat (first | exact HV.out | apply ViewS.drewN | apply ViewS.drew)); rintro e w8 ⟨rfl, hb8⟩; have HB8 := Aside0.mk (below_step HB.out hb8); obtain ⟨A1, c1, hz1, hc1, hr1⟩ := (HV.out.below hb8).c1; have HR1 := Aside0.mk hr1; clear hb8 hr1)
      | (go_at_call 58; (with_reducible refine (slices_Contains_int_int.calls (ps.length + 1) _ _ ps a1 _ _ ?side1 hc1 (contains_f ps a1 h2)).mono ?_); (case side1 => repeat (first | exact HR1.out | (with_reducible refine Kd.C_drewN ?_ _) | (with_reducible refine Kd.C_drew ?_))); rintro e w' ⟨rfl, ⟨nd, rfl⟩⟩))
    go_ret
    exact ⟨rfl, by repeat (first | (with_reducible first | exact HB8.out | apply below_alloc | apply pw_below_drewN | apply below_drew1) | exact HB8.out)⟩

theorem atGo_ltS (its : List S105) (e : Int) : ∀ n, atGoS its e n < n
  | 0 => by simp [atGoS]
  | n + 1 => by
    have := atGo_ltS its e n
    unfold atGoS
    split <;> omega
def getES (its : List S105) (ps : List Int) (a : Int) : ByteArray × Bool := if hasES its ps a = true then (if atES its a < 0 then (⟨#[]⟩, false) else ((rd_T105 its (atES its a)).f1, true)) else (⟨#[]⟩, false)
set_option maxHeartbeats 8000000 in
set_option maxRecDepth 100000 in
theorem getS_.calls (g : Nat) (its : List S105) (ps : List Int) (a1 : Int) (r1 : ByteArray) (r2 : Bool) (w : World) (hV : ViewS w g its ps) (h0 : 0 < its.length) (h1 : its.length ≤ 1000000) (h2 : ps.length ≤ 1000000) (h : getES its ps a1 = (r1, r2)) :
    Calls Try.prog 42 #[.pointer (some ⟨g, 0, none⟩), .int .i64 a1] w fun e w' => e = .returned (.tuple #[.string r1, .bool r2]) ∧ Below w.heap.size w w' := by
  have HB := Aside0.mk (Below.refl w.heap.size w)
  have HV := Aside0.mk hV
  clear hV
  unfold getES at h
  by_cases c : hasES its ps a1 = true
  · rw [if_pos c] at h
    have c1 := Aside0.mk c
    by_cases cn : atES its a1 < 0
    · rw [if_pos cn] at h
      obtain ⟨rfl, rfl⟩ := Prod.mk.inj h
      have cb := decide_eq_true cn
      generalize hat : atES its a1 = ai at cb
      have A1 := Aside0.mk hat
      clear c cn h hat
      go_enter Try.func42, Try.ntmps42
      go_wp2_with (first
        | (go_at_call 59; (with_reducible refine (hasS_.calls g its ps a1 true _ ?side1 h0 h1 h2 c1.out).mono ?_); (case side1 => repeat (first | exact HV.out | apply ViewS.drewN | apply ViewS.drew)); rintro e w8 ⟨rfl, hb8⟩; have HB8 := Aside0.mk (below_step HB.out hb8); have HV8 := Aside0.mk (HV.out.below hb8); clear hb8)
        | (go_at_call 60; (with_reducible refine (atS_.calls g its ps a1 ai _ ?side1 h0 h1 A1.out).mono ?_); (case side1 => repeat (first | exact HV8.out | apply ViewS.drewN | apply ViewS.drew)); rintro e w9 ⟨rfl, hb9⟩; have HB9 := Aside0.mk (below_step HB8.out hb9); clear hb9))
      refine bodyPost_ret (results_tmp2 rfl _ _ _) rfl ?_
      exact ⟨rfl, by repeat (first | (with_reducible first | exact HB9.out | apply below_alloc | apply pw_below_drewN | apply below_drew1) | exact HB9.out)⟩
    · rw [if_neg cn] at h
      obtain ⟨rfl, rfl⟩ := Prod.mk.inj h
      have cb := decide_eq_false cn
      have hlt : atES its a1 < (its.length : Int) := atGo_ltS its a1 _
      generalize hat : atES its a1 = ai at *
      have A1 := Aside0.mk hat
      have hp : 0 ≤ ai := by omega
      have p := eq_true hp
      have q := eq_true hlt
      have HLT := Aside0.mk hlt
      have HP := Aside0.mk hp
      clear c cn h hat hlt hp
      go_enter Try.func42, Try.ntmps42
      go_wp2_with (first
        | (go_at_call 59; (with_reducible refine (hasS_.calls g its ps a1 true _ ?side1 h0 h1 h2 c1.out).mono ?_); (case side1 => repeat (first | exact HV.out | apply ViewS.drewN | apply ViewS.drew)); rintro e w8 ⟨rfl, hb8⟩; have HB8 := Aside0.mk (below_step HB.out hb8); have HV8 := Aside0.mk (HV.out.below hb8); clear hb8)
        | (go_at_call 60; (with_reducible refine (atS_.calls g its ps a1 ai _ ?side1 h0 h1 A1.out).mono ?_); (case side1 => repeat (first | exact HV8.out | apply ViewS.drewN | apply ViewS.drew)); rintro e w9 ⟨rfl, hb9⟩; have HB9 := Aside0.mk (below_step HB8.out hb9); obtain ⟨A0, c0, hz0, hc0, hr0⟩ := (HV8.out.below hb9).c0; obtain ⟨ad, e1, hx0, hx1⟩ := at_T105 hr0 ai HP.out HLT.out; cases e1; clear hb9 hr0))
      refine bodyPost_ret (results_tmp2 rfl _ _ _) rfl ?_
      exact ⟨rfl, by repeat (first | (with_reducible first | exact HB9.out | apply below_alloc | apply pw_below_drewN | apply below_drew1) | exact HB9.out)⟩
  · rw [if_neg c] at h
    obtain ⟨rfl, rfl⟩ := Prod.mk.inj h
    have c1 := Aside0.mk (show hasES its ps a1 = false by simpa using c)
    clear c h
    go_enter Try.func42, Try.ntmps42
    go_wp2_with (first
      | (go_at_call 59; (with_reducible refine (hasS_.calls g its ps a1 false _ ?side1 h0 h1 h2 c1.out).mono ?_); (case side1 => repeat (first | exact HV.out | apply ViewS.drewN | apply ViewS.drew)); rintro e w8 ⟨rfl, hb8⟩; have HB8 := Aside0.mk (below_step HB.out hb8); clear hb8))
    refine bodyPost_ret (results_tmp2 rfl _ _ _) rfl ?_
    exact ⟨rfl, by repeat (first | (with_reducible first | exact HB8.out | apply below_alloc | apply pw_below_drewN | apply below_drew1) | exact HB8.out)⟩

set_option maxHeartbeats 8000000 in
set_option maxRecDepth 100000 in
theorem newS_.calls (a0 : ByteArray) (w : World) :
    Calls Try.prog 41 #[.string a0] w fun e w' => ∃ g, e = .returned (.pointer (some ⟨g, 0, none⟩)) ∧ ViewS w' g [⟨0, a0⟩] [] ∧ Below w.heap.size w w' := by
  have HB := Aside0.mk (Below.refl w.heap.size w)
  go_enter Try.func41, Try.ntmps41
  go_wp2
  go_ret
  have ho := World.ownsRow_lit (base := w.heap.size) (e := 105) (size := 2) w #[.int .i64 0, .string a0] 1 (Nat.le_refl _) (by simp [maxLen]) (by simp)
  have hR : Kd.R k105 105 (w.alloc (.cells #[.int .i64 0, .string a0] 105)) w.heap.size (fun _ => True) (.slice (some ⟨w.heap.size, 0, none⟩) 1 1) [⟨0, a0⟩] :=
    ⟨fun _ _ => trivial, [.int .i64 0, .string a0], ho, Reps.c2 (k105_mkM _ _ _ ⟨0, a0⟩) (Reps.none _ 2)⟩
  obtain ⟨A0, c0, e0, hc0, hr0⟩ := Kd.R_reads hR
  injection e0 with e1 _ e3
  subst e1; subst e3
  refine ⟨w.heap.size + 1, rfl, ⟨_, _, _, _, by have := blk_new (w.alloc (.cells #[.int .i64 0, .string a0] 105)) (.cells #[.slice (some ⟨w.heap.size, 0, none⟩) 1 1, .slice none 0 0] 108); simpa using this, Nat.le_refl _, Nat.le_refl _, Kd.C_below hr0 (below_alloc (Below.refl _ _) _), ?_⟩, below_alloc (below_alloc (Below.refl _ _) _) _⟩
  obtain ⟨A1, c1, e0, hc1, hr1⟩ := Kd.R_reads (Kd.R_nil (Kd.int .i64) 3 ((w.alloc (.cells #[.int .i64 0, .string a0] 105)).alloc (.cells #[.slice (some ⟨w.heap.size, 0, none⟩) 1 1, .slice none 0 0] 108)) 0 (fun _ => True))
  injection e0 with e1 _ e3
  subst e1; subst e3
  exact hr1


theorem nil_has (a1 : Int) (w : World) : Calls Try.prog 38 #[.pointer none, .int .i64 a1] w fun e w' => e = .returned (.bool false) ∧ Below w.heap.size w w' := by
  have HB := Aside0.mk (Below.refl w.heap.size w)
  go_enter Try.func38, Try.ntmps38
  go_wp2
  go_ret
  exact ⟨rfl, by repeat (first | (with_reducible first | exact HB.out | apply below_alloc | apply pw_below_drewN | apply below_drew1) | exact HB.out)⟩
theorem nil_publish (a1 : Int) (a2 : Int) (w : World) : Calls Try.prog 27 #[.pointer none, .int .i64 a1, .int .i64 a2] w fun e w' => e = .returned (.int .i64 2) ∧ Below w.heap.size w w' := by
  have HB := Aside0.mk (Below.refl w.heap.size w)
  go_enter Try.func27, Try.ntmps27
  go_wp2
  go_ret
  exact ⟨rfl, by repeat (first | (with_reducible first | exact HB.out | apply below_alloc | apply pw_below_drewN | apply below_drew1) | exact HB.out)⟩
theorem nil_pin (a1 : Int) (w : World) : Calls Try.prog 29 #[.pointer none, .int .i64 a1] w fun e w' => e = .returned (.int .i64 2) ∧ Below w.heap.size w w' := by
  have HB := Aside0.mk (Below.refl w.heap.size w)
  go_enter Try.func29, Try.ntmps29
  go_wp2
  go_ret
  exact ⟨rfl, by repeat (first | (with_reducible first | exact HB.out | apply below_alloc | apply pw_below_drewN | apply below_drew1) | exact HB.out)⟩
theorem nil_unpin (a1 : Int) (w : World) : Calls Try.prog 31 #[.pointer none, .int .i64 a1] w fun e w' => e = .returned (.int .i64 2) ∧ Below w.heap.size w w' := by
  have HB := Aside0.mk (Below.refl w.heap.size w)
  go_enter Try.func31, Try.ntmps31
  go_wp2
  go_ret
  exact ⟨rfl, by repeat (first | (with_reducible first | exact HB.out | apply below_alloc | apply pw_below_drewN | apply below_drew1) | exact HB.out)⟩
theorem nil_live (w : World) : Calls Try.prog 33 #[.pointer none] w fun e w' => e = .returned (.int .i64 0) ∧ Below w.heap.size w w' := by
  have HB := Aside0.mk (Below.refl w.heap.size w)
  go_enter Try.func33, Try.ntmps33
  go_wp2
  go_ret
  exact ⟨rfl, by repeat (first | (with_reducible first | exact HB.out | apply below_alloc | apply pw_below_drewN | apply below_drew1) | exact HB.out)⟩
theorem nil_pins (w : World) : Calls Try.prog 35 #[.pointer none] w fun e w' => e = .returned (.int .i64 0) ∧ Below w.heap.size w w' := by
  have HB := Aside0.mk (Below.refl w.heap.size w)
  go_enter Try.func35, Try.ntmps35
  go_wp2
  go_ret
  exact ⟨rfl, by repeat (first | (with_reducible first | exact HB.out | apply below_alloc | apply pw_below_drewN | apply below_drew1) | exact HB.out)⟩
theorem nil_now (w : World) : Calls Try.prog 36 #[.pointer none] w fun e w' => e = .returned (.int .i64 0) ∧ Below w.heap.size w w' := by
  have HB := Aside0.mk (Below.refl w.heap.size w)
  go_enter Try.func36, Try.ntmps36
  go_wp2
  go_ret
  exact ⟨rfl, by repeat (first | (with_reducible first | exact HB.out | apply below_alloc | apply pw_below_drewN | apply below_drew1) | exact HB.out)⟩
theorem nil_get (a1 : Int) (w : World) : Calls Try.prog 37 #[.pointer none, .int .i64 a1] w fun e w' => e = .returned (.tuple #[.int .i64 0, .bool false]) ∧ Below w.heap.size w w' := by
  go_enter Try.func37, Try.ntmps37
  go_wp2_with (first
    | (go_at_call 38; refine (nil_has a1 w).mono ?_; rintro e w1 ⟨rfl, hb1⟩; have HB := Aside0.mk hb1; clear hb1))
  refine bodyPost_ret (results_tmp2 rfl _ _ _) rfl ?_
  exact ⟨rfl, by repeat (first | (with_reducible first | exact HB.out | apply below_alloc | apply pw_below_drewN | apply below_drew1) | exact HB.out)⟩
/-! ### crossbucklaw18_VersionNil: function 9 (by hand) -/
def crossbucklaw18_VersionNil.f (a0 : Int) (a1 : ByteArray) : Option Bool := some true
set_option maxHeartbeats 8000000 in
set_option maxRecDepth 100000 in
theorem crossbucklaw18_VersionNil.calls (a0 : Int) (a1 : ByteArray) (r : Bool) (w : World) (h : crossbucklaw18_VersionNil.f a0 a1 = some r) :
    Calls Try.prog 9 #[.int .i64 a0, .string a1] w fun e w' => e = .returned (.bool r) ∧ Below w.heap.size w w' := by
  obtain rfl := Option.some.inj h
  clear h
  have B0 := Aside0.mk (Below.refl w.heap.size w)
  have g0 : getES [⟨0, a1⟩] [] 0 = (a1, true) := rfl
  have g1 : getES [⟨0, a1⟩] [] (-1) = (⟨#[]⟩, false) := rfl
  go_enter Try.func9, Try.ntmps9
  go_wp2_with (first
    | (go_at_call 37; refine (nil_get a0 _).mono ?_; rintro e w1 ⟨rfl, hb⟩; have B1 := Aside0.mk (below_step B0.out hb); clear hb)
    | (go_at_call 41; refine (newS_.calls a1 _).mono ?_; rintro e w2 ⟨g, rfl, hv, hb⟩; have V2 := Aside0.mk hv; have B2 := Aside0.mk (below_step B1.out hb); clear hb hv)
    | (go_at_call 42; refine (getS_.calls g _ _ (-1) _ _ _ V3.out (by simp) (by simp) (by simp) g1).mono ?_; rintro e w4 ⟨rfl, hb⟩; have B4 := Aside0.mk (below_step B3.out hb); clear hb)
    | (go_at_call 42; refine (getS_.calls g _ _ 0 _ _ _ V2.out (by simp) (by simp) (by simp) g0).mono ?_; rintro e w3 ⟨rfl, hb⟩; have V3 := Aside0.mk (V2.out.below hb); have B3 := Aside0.mk (below_step B2.out hb); clear hb)
    | (go_at_call 24; refine (awake_.calls _).mono ?_; rintro e w5 ⟨rfl, hb⟩; have B5 := Aside0.mk (below_step B4.out hb); clear hb)
    | (go_at_call 27; refine (nil_publish a0 1 _).mono ?_; rintro e w6 ⟨rfl, hb⟩; have B6 := Aside0.mk (below_step B5.out hb); clear hb)
    | (go_at_call 29; refine (nil_pin a0 _).mono ?_; rintro e w7 ⟨rfl, hb⟩; have B7 := Aside0.mk (below_step B6.out hb); clear hb)
    | (go_at_call 31; refine (nil_unpin a0 _).mono ?_; rintro e w8 ⟨rfl, hb⟩; have B8 := Aside0.mk (below_step B7.out hb); clear hb)
    | (go_at_call 38; refine (nil_has a0 _).mono ?_; rintro e w9 ⟨rfl, hb⟩; have B9 := Aside0.mk (below_step B8.out hb); clear hb)
    | (go_at_call 36; refine (nil_now _).mono ?_; rintro e w10 ⟨rfl, hb⟩; have B10 := Aside0.mk (below_step B9.out hb); clear hb)
    | (go_at_call 33; refine (nil_live _).mono ?_; rintro e w11 ⟨rfl, hb⟩; have B11 := Aside0.mk (below_step B10.out hb); clear hb)
    | (go_at_call 35; refine (nil_pins _).mono ?_; rintro e w12 ⟨rfl, hb⟩; have B12 := Aside0.mk (below_step B11.out hb); clear hb))
  go_ret
  exact ⟨rfl, B12.out⟩

end Go.Proofs.Ytdemogdagemagaa.PVc
