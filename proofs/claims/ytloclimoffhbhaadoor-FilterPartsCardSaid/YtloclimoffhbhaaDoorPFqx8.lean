/- FilterParts: its contract, for whatever filter and header. No condition of its own. -/
import Derived.Test.YtloclimoffhbhaaDoorPFqx7
namespace Go.Proofs.YtloclimoffhbhaaDoor.PFq
open Go.RowKit Go.Proofs.YtloclimoffhbhaaDoorW.PrintWords Go.Proofs.YtloclimoffhbhaaDoorW.PrintLast Go.Proofs.YtloclimoffhbhaaDoorW.PrintMore Go.Proofs.YtloclimoffhbhaaDoor.Facts Go.Proofs.YtloclimoffhbhaaDoor.Pure
attribute [local go_sem] max2_int min2_int max_two min_two max_three min_three max_four min_four   -- for this text's walks alone
set_option linter.unusedVariables false
set_option linter.unusedSimpArgs false
/-! ### crossbucklaw04_FilterParts: function 10 (by hand) -/
open Classical in
noncomputable def crossbucklaw04_FilterParts.f (k : Nat) (a0_0 a0_1 a0_2 a0_3 a0_4 a0_5 a0_6 a0_7 a0_8 a1_0 a1_1 a1_2 a1_3 a1_4 : Int) : Option Bool := if (⟨a0_0, a0_1, a0_2, a0_3, a0_4, a0_5, a0_6, a0_7, a0_8⟩ : Flt).bd ∧ (⟨a1_0, a1_1, a1_2, a1_3, a1_4⟩ : Hdr).bd then some true else none
set_option maxHeartbeats 8000000 in
set_option maxRecDepth 100000 in
theorem parts_no (f : Flt) (h : Hdr) (hb : f.bd) (hn : checkV f ≠ 0) (w : World) (hG : Hand.Good true false w) :
    Calls Tryd.prog 10 #[.agg #[.int .u32 f.da, .int .i64 f.db, .int .u32 f.sa, .int .i64 f.sb, .int .i64 f.pr, .int .u16 f.sl, .int .u16 f.sh, .int .u16 f.dl, .int .u16 f.dh], .agg #[.int .u32 h.dst, .int .u32 h.src, .int .u8 h.pr, .int .u16 h.sp, .int .u16 h.dp]] w fun e w' => e = .returned (.bool true) ∧ Below w.heap.size w w' := by
  have B0 := Aside0.mk (Below.refl w.heap.size w)
  have hGG := Aside0.mk hG
  have E0 := Aside0.mk (check_eq (f := f) (k := 200) (by omega) hb)
  generalize checkV f = cv at E0 hn
  have q0 : (cv != 0) = true := bne_iff_ne.mpr hn
  have q1 : (cv == 0) = false := beq_eq_false_iff_ne.mpr hn
  clear hG hb hn
  go_enter Tryd.func10, Tryd.ntmps10
  go_wp2_with (first
    | ((with_reducible refine gate_dst (N := 2) rfl ?_); refine box_event ?hg (N := 2) ?hd (cs := #[.int .u32 f.da, .int .i64 f.db, .int .u32 f.sa, .int .i64 f.sb, .int .i64 f.pr, .int .u16 f.sl, .int .u16 f.sh, .int .u16 f.dl, .int .u16 f.dh]) (t := 77) ?hr ?_; (case hd => rfl); (case hg => rfl); (case hr => first | (go_simp; done) | (go_simp; rfl)); intro gf hgx wx hbox hb; have BF := Aside0.mk ((Hand.Bx.nil B0.out).cons hb (Nat.le_of_eq hgx.symm) hbox); clear hgx hbox hb)
    | ((with_reducible refine gate_dst (N := 3) rfl ?_); refine box_event ?hg (N := 3) ?hd (cs := #[.int .u32 h.dst, .int .u32 h.src, .int .u8 h.pr, .int .u16 h.sp, .int .u16 h.dp]) (t := 67) ?hr ?_; (case hd => rfl); (case hg => rfl); (case hr => first | (go_simp; done) | (go_simp; rfl)); intro gh hgx wx hbox hb; have BH := Aside0.mk (BF.out.cons hb (Nat.le_of_eq hgx.symm) hbox); clear hgx hbox hb)
    | ((with_reducible refine gate_dst (N := 14) rfl ?_); refine wpList_load_row rfl 77 (.tmp 2) rfl _ rfl _ _ _ _ (BH.out.at_ 1 rfl) Tryd.underlying77 rfl sz77 ?_)
    | (go_at_call 43; (with_reducible refine (crossbuckref04_Check.calls 200 f.da f.db f.sa f.sb f.pr f.sl f.sh f.dl f.dh cv _ E0.out).mono ?_); rintro e wx ⟨rfl, hb⟩; have BI := Aside0.mk (BH.out.below hb); clear hb)
    | (go_at_call 46; (with_reducible refine (crossbucklaw04_awake.calls 206 true _ (Hand.Good.below true false hGG.out BI.out.bl rfl rfl) (awake04 (by omega))).mono ?_); rintro e wx ⟨rfl, hb⟩; have B8 := Aside0.mk (BI.out.below hb); clear hb))
  go_ret
  exact ⟨rfl, B8.out.bl⟩
theorem crossbucklaw04_FilterParts.calls (k : Nat) (a0_0 : Int) (a0_1 : Int) (a0_2 : Int) (a0_3 : Int) (a0_4 : Int) (a0_5 : Int) (a0_6 : Int) (a0_7 : Int) (a0_8 : Int) (a1_0 : Int) (a1_1 : Int) (a1_2 : Int) (a1_3 : Int) (a1_4 : Int) (r : Bool) (w : World) (hG : Hand.Good true false w) (h : crossbucklaw04_FilterParts.f k a0_0 a0_1 a0_2 a0_3 a0_4 a0_5 a0_6 a0_7 a0_8 a1_0 a1_1 a1_2 a1_3 a1_4 = some r) :
    Calls Tryd.prog 10 #[.agg #[.int .u32 a0_0, .int .i64 a0_1, .int .u32 a0_2, .int .i64 a0_3, .int .i64 a0_4, .int .u16 a0_5, .int .u16 a0_6, .int .u16 a0_7, .int .u16 a0_8], .agg #[.int .u32 a1_0, .int .u32 a1_1, .int .u8 a1_2, .int .u16 a1_3, .int .u16 a1_4]] w fun e w' => e = .returned (.bool r) ∧ Below w.heap.size w w' := by
  unfold crossbucklaw04_FilterParts.f at h
  split at h
  · rename_i hb
    obtain rfl := Option.some.inj h
    by_cases c : checkV (⟨a0_0, a0_1, a0_2, a0_3, a0_4, a0_5, a0_6, a0_7, a0_8⟩ : Flt) = 0
    · exact parts_ (⟨a0_0, a0_1, a0_2, a0_3, a0_4, a0_5, a0_6, a0_7, a0_8⟩ : Flt) (⟨a1_0, a1_1, a1_2, a1_3, a1_4⟩ : Hdr) (Ok.of hb.1 c) hb.2 w hG
    · exact parts_no (⟨a0_0, a0_1, a0_2, a0_3, a0_4, a0_5, a0_6, a0_7, a0_8⟩ : Flt) (⟨a1_0, a1_1, a1_2, a1_3, a1_4⟩ : Hdr) hb.1 c w hG
  · cases h
end Go.Proofs.YtloclimoffhbhaaDoor.PFq
