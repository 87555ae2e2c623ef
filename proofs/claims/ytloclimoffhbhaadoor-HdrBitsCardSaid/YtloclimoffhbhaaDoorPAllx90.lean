-- Written by wip/myprint.py (this session's own driver); Lean checks it.
import Derived.Test.YtloclimoffhbhaaDoorPAllx0
import Derived.Test.YtloclimoffhbhaaDoorPAllx70
import Derived.Test.YtloclimoffhbhaaDoorPAllx89
namespace Go.Proofs.YtloclimoffhbhaaDoor.PAll
open Go.RowKit Go.Proofs.YtloclimoffhbhaaDoorW.PrintWords Go.Proofs.YtloclimoffhbhaaDoorW.PrintLast Go.Proofs.YtloclimoffhbhaaDoorW.PrintMore
attribute [local go_sem] max2_int min2_int max_two min_two max_three min_three max_four min_four   -- for this text's walks alone
set_option linter.unusedVariables false
set_option linter.unusedSimpArgs false

/-! ### crossbucklaw02_awake: function 31 -/
def crossbucklaw02_awake.f (k : Nat)  : Option (Bool) := (hdr_Addr.f k 167772161).bind fun t389 => (if t389.toList = ([49, 48, 46, 48, 46, 48, 46, 49] : List UInt8) then ((hdr_Bit.f k 167772161 0 0 0 0 4).bind fun t390 => (some t390)) else (some false))
theorem crossbucklaw02_awake.mono : ∀ k, LeO (crossbucklaw02_awake.f k ) (crossbucklaw02_awake.f (k + 1) ) := by
  intro  k
  unfold crossbucklaw02_awake.f
  repeat' first
      | (with_reducible exact hdr_Addr.mono _ _)
      | (with_reducible exact hdr_Bit.mono _ _ _ _ _ _ _)
      | (with_reducible exact LeO.refl _)
      | (with_reducible exact LeO.none _)
      | (with_reducible refine LeO.ite ?_ ?_)
      | (with_reducible refine LeO.bind ?_ (fun _ => ?_))
      | exact hdr_Addr.mono _ _
      | exact hdr_Bit.mono _ _ _ _ _ _ _
      | exact LeO.none _
      | refine LeO.ite ?_ ?_
      | refine LeO.bind ?_ (fun _ => ?_)
set_option maxHeartbeats 8000000 in
set_option maxRecDepth 100000 in
theorem crossbucklaw02_awake.calls (k : Nat)  (r : Bool) (w : World) (hG : Hand.Good false true w) (h : crossbucklaw02_awake.f k  = some r) :
    Calls Tryd.prog 31 #[] w fun e w' => e = .returned (.bool r) ∧ Below w.heap.size w w' := by
  have hu67 := Tryd.underlying67
  have HB := Aside0.mk (Below.refl w.heap.size w)
  have hGG := Aside0.mk hG
  clear hG
  have H : ((hdr_Addr.f k 167772161).bind fun t389 => (if t389.toList = ([49, 48, 46, 48, 46, 48, 46, 49] : List UInt8) then ((hdr_Bit.f k 167772161 0 0 0 0 4).bind fun t390 => (some t390)) else (some false))) = some r := h
  clear h
  replace H := Option.bind_eq_some_iff.mp H
  obtain ⟨t389, A10, H⟩ := H
  replace H : (if t389.toList = ([49, 48, 46, 48, 46, 48, 46, 49] : List UInt8) then ((hdr_Bit.f k 167772161 0 0 0 0 4).bind fun t390 => (some t390)) else (some false)) = some r := H
  have A1 := Aside0.mk A10
  clear A10
  by_cases c2 : t389.toList = ([49, 48, 46, 48, 46, 48, 46, 49] : List UInt8)
  · rw [if_pos c2] at H
    have c2b0 : (t389.toList == ([49, 48, 46, 48, 46, 48, 46, 49] : List UInt8)) = true := beq_iff_eq.mpr c2
    have c2b1 : (t389.toList != ([49, 48, 46, 48, 46, 48, 46, 49] : List UInt8)) = false := bne_eq_false_iff_eq.mpr c2
    clear c2
    replace H := Option.bind_eq_some_iff.mp H
    obtain ⟨t390, A30, H⟩ := H
    replace H : (some t390) = some r := H
    have A3 := Aside0.mk A30
    clear A30
    obtain rfl := Option.some.inj H
    go_enter Tryd.func31, Tryd.ntmps31
    go_wp2_with (first | ((with_reducible refine gate_callee (f := 53) rfl ?_); refine goesL_ (some 1) rfl rfl Tryd.func53 (by kernel_rfl) rfl #[.int .u32 167772161] rfl (by (try simp only [List.map_toArray, List.map_cons, List.map_nil]); first | done | rfl | (simp only [List.length_drop, List.length_take]; rfl)) ?_; (with_reducible refine (hdr_Addr.calls k 167772161 t389 _ (Hand.Good.below false true hGG.out (by repeat (first | (with_reducible first | exact HB.out | apply below_alloc | apply pw_below_drewN | apply below_drew1) | exact HB.out)) rfl rfl) A1.out).mono ?_); rintro e w4 ⟨rfl, hb⟩; refine ⟨_, rfl, ?_⟩; have n0_ := Aside0.mk (below_step (by repeat (first | (with_reducible first | exact HB.out | apply below_alloc | apply pw_below_drewN | apply below_drew1) | exact HB.out)) hb); clear HB; have HB := n0_; clear n0_; (try clear hb); (try clear hb2); (try clear hk); (try clear hi)) | (go_at_call 38; (with_reducible refine (hdr_Bit.calls k 167772161 0 0 0 0 4 t390 _ A3.out).mono ?_); rintro e w5 ⟨rfl, hb⟩; have n0_ := Aside0.mk (below_step (by repeat (first | (with_reducible first | exact HB.out | apply below_alloc | apply pw_below_drewN | apply below_drew1) | exact HB.out)) hb); clear HB; have HB := n0_; clear n0_; (try clear hb); (try clear hb2); (try clear hk); (try clear hi)))
    go_ret
    exact ⟨by first | rfl | (simp [errW_none, errW_some] <;> rfl) | (simp [*, errW_none, errW_some] <;> rfl), by repeat (first | (with_reducible first | exact HB.out | apply below_alloc | apply pw_below_drewN | apply below_drew1) | exact HB.out)⟩
  · rw [if_neg c2] at H
    have c2b0 : (t389.toList == ([49, 48, 46, 48, 46, 48, 46, 49] : List UInt8)) = false := beq_eq_false_iff_ne.mpr c2
    have c2b1 : (t389.toList != ([49, 48, 46, 48, 46, 48, 46, 49] : List UInt8)) = true := bne_iff_ne.mpr c2
    obtain rfl := Option.some.inj H
    go_enter Tryd.func31, Tryd.ntmps31
    go_wp2_with (first | ((with_reducible refine gate_callee (f := 53) rfl ?_); refine goesL_ (some 1) rfl rfl Tryd.func53 (by kernel_rfl) rfl #[.int .u32 167772161] rfl (by (try simp only [List.map_toArray, List.map_cons, List.map_nil]); first | done | rfl | (simp only [List.length_drop, List.length_take]; rfl)) ?_; (with_reducible refine (hdr_Addr.calls k 167772161 t389 _ (Hand.Good.below false true hGG.out (by repeat (first | (with_reducible first | exact HB.out | apply below_alloc | apply pw_below_drewN | apply below_drew1) | exact HB.out)) rfl rfl) A1.out).mono ?_); rintro e w6 ⟨rfl, hb⟩; refine ⟨_, rfl, ?_⟩; have n0_ := Aside0.mk (below_step (by repeat (first | (with_reducible first | exact HB.out | apply below_alloc | apply pw_below_drewN | apply below_drew1) | exact HB.out)) hb); clear HB; have HB := n0_; clear n0_; (try clear hb); (try clear hb2); (try clear hk); (try clear hi)))
    go_ret
    exact ⟨by first | rfl | (simp [errW_none, errW_some] <;> rfl) | (simp [*, errW_none, errW_some] <;> rfl), by repeat (first | (with_reducible first | exact HB.out | apply below_alloc | apply pw_below_drewN | apply below_drew1) | exact HB.out)⟩

end Go.Proofs.YtloclimoffhbhaaDoor.PAll
