-- The walks of the trie's functions, by hand.
import Derived.Test.YtbmibakhpealjaaPTrx53
namespace Go.Proofs.Ytbmibakhpealjaa.PTr
open Go.RowKit Go.Proofs.YtbmibakhpealjaaW.PrintWords Go.Proofs.YtbmibakhpealjaaW.PrintLast Go.Proofs.YtbmibakhpealjaaW.PrintMore
attribute [local go_sem] max2_int min2_int max_two min_two max_three min_three max_four min_four   -- for this text's walks alone
set_option linter.unusedVariables false
set_option linter.unusedSimpArgs false

attribute [local go_sem high] eqA33 eqA42
open Go.Proofs.Ytbmibakhpealjaa.TrieP Go.Proofs.Ytbmibakhpealjaa.Facts Go.Proofs.Ytbmibakhpealjaa.Bits
def widest_.T15 : Bool × List (List Nat × List Nat) := (true, [([], []), ([0], [0]), ([1], [1]), ([2], [2]), ([2], [2]), ([4, 2], [2, 4]), ([3, 5, 2], [2, 3, 5]), ([6, 2], [2, 6]), ([7, 2], [2, 7]), ([8, 2], [2, 8]), ([2], [2]), ([10, 2], [2, 10]), ([11, 2], [2, 11]), ([9, 12, 2], [2, 9, 12]), ([13, 2, 2], [2, 13]), ([14], [14]), ([14], [14]), ([16, 14], [14, 16]), ([15, 17, 14], [14, 15, 17]), ([18, 14], [14, 18]), ([19, 14], [14, 19]), ([14], [14]), ([21, 14], [14, 21]), ([20, 22, 14], [14, 20, 22]), ([23, 14, 14], [14, 23]), ([24], [24]), ([24], [24]), ([26, 24], [24, 26]), ([25, 27, 24], [24, 25, 27]), ([28, 24], [24, 28]), ([29, 24], [24, 29]), ([24], [24]), ([31, 24], [24, 31]), ([30, 32, 24], [24, 30, 32]), ([24, 33, 14], [14, 24, 33]), ([14, 34, 2], [2, 14, 34]), ([2, 35], [2, 35]), ([36, 24], [36]), ([37], [37]), ([38, 37], [37, 38]), ([39, 37], [37, 39]), ([40, 37], [37, 40]), ([37], [37]), ([42, 37], [37, 42]), ([41, 43, 37], [37, 41, 43]), ([37, 44], [37, 44])])
def widest_.B15 : List Nat := [0, 1, 3, 7, 7, 23, 63, 127, 255, 511, 7, 1031, 3079, 8191, 16383, 32767, 32767, 98303, 262143, 524287, 1048575, 32767, 2129919, 8388607, 16777215, 33554431, 33554431, 100663295, 268435455, 536870911, 1073741823, 33554431, 2181038079, 8589934591, 17179869183, 34359738367, 68719476735, 137438953471, 274877906943, 549755813887, 1099511627775, 2199023255551, 274877906943, 4672924418047, 17592186044415, 35184372088831]
theorem widest_.tab15 : rtab .any (opsOf Try.f4 15) = widest_.T15 := by kernel_rfl
theorem widest_.bits15 : waitsOk widest_.T15.2 widest_.B15 = true := by kernel_rfl
/-- What the row of an address is like. -/
structure Good42 (es : List En) (a : Int) : Prop where
  mem : ∀ x ∈ es, rt x ∧ (x.a : Int) ≤ a
  next : ∀ i (hi : i + 1 < es.length), es[i].b ≤ es[i + 1].b ∧ (es[i].a = es[i + 1].a → es[i].b = es[i + 1].b → es[i].v < es[i + 1].v)
theorem good42 {l : List En} (hs : Srt l) (hr : Rts l) {a : Int} (h0 : 0 ≤ a) (h1 : a < 4294967296) : Good42 (ofE l a.toNat 33) a := ⟨fun x hx => by
  have := of_mem hs hr (show a.toNat < 4294967296 by omega) hx
  exact ⟨this.1, by have := this.2; omega⟩, fun i hi => of_next hs hr (show a.toNat < 4294967296 by omega) hi⟩
theorem next_facts {es : List En} {a : Int} (G : Good42 es a) {m : Nat} (h : m + 1 < es.length) {x z : S42} (hx : x = toS es[m + 1]) (hz : z = toS es[m]) : decide (x.f0.f1 < z.f0.f1) = false ∧ ((z.f0.f0 == x.f0.f0 && z.f0.f1 == x.f0.f1) = true → decide (x.f1 ≤ z.f1) = false) := by
  have hn := G.next m h
  subst hx
  subst hz
  refine ⟨decide_eq_false ?_, fun he => decide_eq_false ?_⟩
  · show ¬ ((es[m + 1]).b : Int) < ((es[m]).b : Int)
    omega
  · rw [Bool.and_eq_true, beq_iff_eq, beq_iff_eq] at he
    have e1 : ((es[m]).a : Int) = ((es[m + 1]).a : Int) := he.1
    have e2 : ((es[m]).b : Int) = ((es[m + 1]).b : Int) := he.2
    have h3 := hn.2 (by omega) (by omega)
    show ¬ (es[m + 1]).v ≤ (es[m]).v
    omega
set_option maxHeartbeats 4000000 in
set_option maxRecDepth 100000 in
theorem widest_walk (A0 : Option Addr) (c0 : Nat) (l0 : List S35) (a1 : Int) (w : World) (hr0 : Kd.C k35 w A0 l0.length l0) (hc0 : l0.length ≤ c0) (hl : l0.length ≤ 60) (hok : ∀ o ∈ l0, okO o) (h0 : 0 ≤ a1) (h1 : a1 < 4294967296) :
    Calls Try.prog 4 #[.slice A0 l0.length c0, .int .u32 a1] w fun e w' => e = .returned (.bool true) ∧ Below w.heap.size w w' := by
  have HR0 := Aside0.mk hr0
  have HC0 := Aside0.mk hc0
  have HL0 := Aside0.mk hl
  have HOK := Aside0.mk hok
  have HA := Aside0.mk (And.intro h0 h1)
  have q1 : decide (60 < l0.length) = false := decide_eq_false (by omega)
  have q3 : decide ((60 : Int) < (l0.length : Int)) = false := decide_eq_false (by omega)
  clear hr0 hc0 hl hok h0 h1
  go_enter Try.func4, Try.ntmps4
  go_wp2_with (first
    | ((with_reducible refine gate_dst (N := 5) rfl ?_); refine box_event ?hg (N := 5) ?hd (cs := #[.slice none 0 0, .pointer none, .pointer none, .int .i64 0]) (t := 30) ?hr ?_; (case hd => rfl); (case hg => rfl); (case hr => first | (go_simp; done) | (go_simp; rfl)); intro ga hga w1 hbox hb; have TA := Aside0.mk (show One w w1 ga [] from ⟨_, TrL.new (w0 := w) hbox hb (Nat.le_of_eq hga.symm)⟩); clear hga hbox hb))
  clear q1 q3
  go_loopg [21] l0.length (fun kq v21 wl => ∃ (i : Nat) (ii : Int), i + kq = l0.length ∧ v21 = .int .i64 ii ∧ Aside0 (ii = (i : Int)) ∧ Aside0 (One w wl ga (puts (l0.take i))))
  case atStart => exact ⟨0, 0, by omega, rfl, ⟨rfl⟩, ⟨by simpa [puts] using TA.out⟩⟩
  case round =>
    clear TA
    obtain ⟨i, ii, hi, rfl, HII, TL⟩ := hrel
    have HI := Aside0.mk hi
    by_cases hlt : i < l0.length
    · have hcn : decide (ii < (l0.length : Int)) = true := decide_eq_true (by have := HII.out; omega)
      have p : 0 ≤ ii := by have := HII.out; omega
      have q : ii < (l0.length : Int) := by have := HII.out; omega
      obtain ⟨ad, e1, hx0, hx1, hx2, hx3⟩ := at_T35 (Kd.C_below HR0.out TL.out.bl) ii p q
      cases e1
      have OKQ := Aside0.mk (show okO (rd_T35 l0 ii) by rw [HII.out]; exact HOK.out _ (rd_mem hlt))
      have TK := Aside0.mk (show putO (puts (l0.take i)) (rd_T35 l0 ii) = puts (l0.take (i + 1)) by rw [HII.out]; exact take_puts hlt)
      have LN := Aside0.mk (show (puts (l0.take i)).length ≤ 1000 by have h1 := puts_len (l0.take i); have := HL0.out; rw [List.length_take] at h1; omega)
      generalize rd_T35 l0 ii = q at hx0 hx1 hx2 hx3 OKQ TK
      replace p := eq_true p
      have HLT := Aside0.mk hlt
      clear hi hlt
      go_wp2_with (first
        | ((with_reducible refine gate_dst (N := 7) rfl ?_); refine box_event ?hg (N := 7) ?hd (cs := #[.bool false, .int .u32 0, .int .i64 0, .int .i64 0]) (t := 35) ?hr ?_; (case hd => rfl); (case hg => rfl); (case hr => first | (go_simp; done) | (go_simp; rfl)); intro g1 hg1 w5 hbox hb; have BO := Aside0.mk hbox; have HB5 := Aside0.mk hb; have HG1 := Aside0.mk hg1; clear hg1 hbox hb)
        | ((with_reducible refine gate_ (.store 35 (.tmp 7) (.tmp 24)) rfl ?_); refine Hand.wpList_store_blk rfl rfl 35 (.tmp 7) (.tmp 24) rfl [.bool q.f0, .int .u32 q.f1.f0, .int .i64 q.f1.f1, .int .i64 q.f2] #[.bool q.f0, .int .u32 q.f1.f0, .int .i64 q.f1.f1, .int .i64 q.f2] rfl rfl BO.out rfl size35 (Nat.le_refl 4) (fun u hu => by simp at hu; rcases hu with rfl | rfl | rfl | rfl <;> rfl) rfl (fun w6 hp => ?_); have BP := Aside0.mk hp.box; have HB6 := Aside0.mk (hp.bl _ HB5.out (Nat.le_of_eq HG1.out.symm)); have z0 : w6.cell? ⟨g1, 0, none⟩ = some (.bool q.f0) := (blk_cell BP.out 0).trans rfl; have z1 : w6.cell? ⟨g1, 1, none⟩ = some (.int .u32 q.f1.f0) := (blk_cell BP.out 1).trans rfl; have z2 : w6.cell? ⟨g1, 2, none⟩ = some (.int .i64 q.f1.f1) := (blk_cell BP.out 2).trans rfl; have z3 : w6.cell? ⟨g1, 3, none⟩ = some (.int .i64 q.f2) := (blk_cell BP.out 3).trans rfl; clear hp)
        | (go_at_call 8; (with_reducible refine (TL.out.add HB6.out LN.out OKQ.out.1 OKQ.out.2 _ _).mono ?_); rintro e w7 ⟨rfl, h7⟩; have T7 := Aside0.mk h7; clear h7 z0 z1 z2 z3))
      go_roundg (l0.length - (i + 1))
      case measure => have := HI.out; have := HLT.out; omega
      case rel => exact ⟨i + 1, ii + 1, by have := HLT.out; omega, by rw [wrap64_id _ (by have := HII.out; omega) (by have := HII.out; have := HLT.out; have := HL0.out; omega)], ⟨by have := HII.out; omega⟩, ⟨by rw [← TK.out]; exact T7.out⟩⟩
    · have hcn : decide (ii < (l0.length : Int)) = false := decide_eq_false (by have := HII.out; omega)
      obtain rfl : i = l0.length := by omega
      rw [List.take_length] at TL
      clear hi hlt
      have LN := Aside0.mk (show (puts l0).length ≤ 60 by have := puts_len l0; have := HL0.out; omega)
      have LN2 := Aside0.mk (show (puts l0).length ≤ 1000 by have := LN.out; omega)
      generalize puts l0 = l at TL LN LN2
      have GD := Aside0.mk (good42 TL.out.srt TL.out.rts HA.out.1 HA.out.2)
      have MO := Aside0.mk (meet_of TL.out.srt TL.out.rts (a := a1.toNat) (by have := HA.out; omega))
      have MW := Aside0.mk (meet_whole TL.out.rts)
      have HES := Aside0.mk (show (ofE l a1.toNat 33).length ≤ 100000 by have h1 := ofE_len l a1.toNat 33; have := LN2.out; omega)
      generalize hes : ofE l a1.toNat 33 = es at GD MO HES
      have HESL := Aside0.mk hes
      clear hes
      go_wp2_with (first
        | (go_at_call 11; (with_reducible refine (TL.out.of (Below.refl _ _) LN2.out HA.out.1 HA.out.2).mono ?_); rintro e w7 ⟨v7, rfl, h7, hb7⟩; rw [HESL.out] at h7; obtain ⟨X7, x7, rfl, hx7, hC7⟩ := Kd.R_reads h7; rw [List.length_map]; rw [List.length_map] at h7 hx7; have R7 := Aside0.mk h7; have T7 := Aside0.mk (TL.out.below hb7); have K7 := Aside0.mk hx7; clear h7 hb7 hC7 hx7 TL)
        | (go_at_call 12; (with_reducible refine (T7.out.meet (Below.refl _ _) LN2.out HA.out.1 HA.out.2 32).mono ?_); rintro e w8 ⟨v8, rfl, h8, hb8⟩; rw [MO.out] at h8; obtain ⟨X8, x8, rfl, hx8, hC8⟩ := Kd.R_reads h8; rw [List.length_map]; rw [List.length_map] at h8 hx8; have C8 := Aside0.mk (Kd.R_reads' h8).2.2; have C7 := Aside0.mk (Kd.R_reads' (Kd.R_below R7.out hb8)).2.2; have T8 := Aside0.mk (T7.out.below hb8); have K8 := Aside0.mk hx8; clear h8 hb8 hC8 hx8 T7 R7))
      go_loopg [43] es.length (fun kq v43 wl => ∃ (j : Nat) (ji : Int), j + kq = es.length ∧ v43 = .int .i64 ji ∧ Aside0 (ji = (j : Int)) ∧ Aside0 (Below w8.heap.size w8 wl))
      case atStart => exact ⟨0, 0, by omega, rfl, ⟨rfl⟩, ⟨Below.refl _ _⟩⟩
      case round =>
        obtain ⟨j, ji, hj, rfl, HJI, BL⟩ := hrel
        have HJ := Aside0.mk hj
        by_cases hlj : j < es.length
        · have hcj : decide (ji < (es.length : Int)) = true := decide_eq_true (by have := HJI.out; omega)
          have HLJ := Aside0.mk hlj
          have p : 0 ≤ ji := by have := HJI.out; omega
          have q : ji < ((es.map toS).length : Int) := by rw [List.length_map]; have := HJI.out; omega
          obtain ⟨ad, e7, hx0, hx1, hx2⟩ := at_T42 (Kd.C_below C7.out BL.out) ji p q
          subst e7
          have hrd : rd_T42 (es.map toS) ji = toS es[j] := by rw [HJI.out]; simp [rd_T42, List.getD, hlj]
          obtain ⟨en, hen⟩ : ∃ en : En, en = es[j] := ⟨_, rfl⟩
          have GM := Aside0.mk (GD.out.mem en (by rw [hen]; exact List.getElem_mem hlj))
          obtain ⟨x, hx⟩ : ∃ x : S42, x = toS en := ⟨_, rfl⟩
          rw [hrd, ← hen, ← hx] at hx0 hx1 hx2
          have MEM := Aside0.mk (show x ∈ es.map toS by rw [hx, hen]; exact List.mem_map.2 ⟨_, List.getElem_mem hlj, rfl⟩)
          have HX := Aside0.mk hx
          have HEN := Aside0.mk (show ∃ h : j < es.length, en = es[j] from ⟨hlj, hen⟩)
          replace p := eq_true p
          have q2 : ji < (es.length : Int) := by have := HJI.out; omega
          clear hj hlj hrd hx hen q
          go_wp2_with (first
            | ((with_reducible refine gate_dst (N := 11) rfl ?_); refine box_event ?hg (N := 11) ?hd (cs := #[.int .u32 0, .int .i64 0, .int .i64 0]) (t := 42) ?hr ?_; (case hd => rfl); (case hg => rfl); (case hr => first | (go_simp; done) | (go_simp; rfl)); intro gx hgx w5 hbox hb; have BO := Aside0.mk hbox; have HB5 := Aside0.mk hb; have HGgx := Aside0.mk hgx; clear hgx hbox hb)
            | ((with_reducible refine gate_ (.store 42 (.tmp 11) (.tmp 47)) rfl ?_); refine Hand.wpList_store_blk rfl rfl 42 (.tmp 11) (.tmp 47) rfl [.int .u32 x.f0.f0, .int .i64 x.f0.f1, .int .i64 x.f1] #[.int .u32 x.f0.f0, .int .i64 x.f0.f1, .int .i64 x.f1] rfl rfl BO.out rfl size42 (Nat.le_refl 3) (fun u hu => by simp at hu; rcases hu with rfl | rfl | rfl <;> rfl) rfl (fun w6 hp => ?_); have PX := Aside0.mk hp.box; have HB6 := Aside0.mk (hp.bl _ HB5.out (Nat.le_of_eq HGgx.out.symm)); clear hp))
          clear hx0 hx1 hx2 BO HB5
          have BD := Aside0.mk (below_drew1 (below_step BL.out HB6.out))
          have PD := Aside0.mk (blk_drew PX.out)
          have hcv : IntKind.u64.wrap x.f0.f0 = x.f0.f0 := by
            have h2 := GM.out.1.2.1
            rw [HX.out]
            show IntKind.u64.wrap (en.a : Int) = (en.a : Int)
            rw [wrap_u64]
            omega
          have hcw : IntKind.u64.wrap a1 = a1 := by have := HA.out; rw [wrap_u64]; omega
          have hc92 : decide (a1 < x.f0.f0) = false := decide_eq_false (by
            have h2 := GM.out.2
            rw [HX.out]
            show ¬ a1 < (en.a : Int)
            omega)
          rcases (show ji = 0 ∨ 0 < ji by have := HJI.out; omega) with hj0 | hj0
          · have hcp : decide (0 < ji) = false := decide_eq_false (by omega)
            clear hj0
            go_wp2
            have hq0 : w6.drew.cell? ⟨gx, 0, none⟩ = _ := (blk_cell PD.out 0).trans rfl
            have hq1 : w6.drew.cell? ⟨gx, 1, none⟩ = _ := (blk_cell PD.out 1).trans rfl
            have hq2 : w6.drew.cell? ⟨gx, 2, none⟩ = _ := (blk_cell PD.out 2).trans rfl
            refine start_ (n := 46) (S := fun w' => w'.cell? ⟨gx, 0, none⟩ = some (.int .u32 x.f0.f0) ∧ w'.cell? ⟨gx, 1, none⟩ = some (.int .i64 x.f0.f1) ∧ w'.cell? ⟨gx, 2, none⟩ = some (.int .i64 x.f1)) (ds := []) #[false, false, false, false, false, false, false, false, false, false, false, false, false, false, false, false, false, false, false, false, false, false, false, false, false, false, false, false, false, false, false, false, false, false, false, false, false, false, false, false, false, false, false, false, false, false] (by kernel_rfl) rfl rfl ⟨hq0, hq1, hq2⟩ (fun hHeld => ?_)
            refine with_tabW widest_.tab15 widest_.bits15 (fun HT_ HW_ => ?_)
            clear hq0 hq1 hq2
            generalize w6.drew = wd at BD PD hHeld ⊢
            refine pure_ (i := 0) (N := some 48) (v := ?_) (a' := ?_) #[true, false, false, false, false, false, false, false, false, false, false, false, false, false, false, false, false, false, false, false, false, false, false, false, false, false, false, false, false, false, false, false, false, false, false, false, false, false, false, false, false, false, false, false, false, false] rfl rfl (any_of HT_.out (by kernel_rfl)) (fun _ _ _ h => h) (Or.inl ⟨by rfl, ?_⟩) ?_ ?_
            rotate_left
            · intro w'
              go_simp
              with_reducible rfl
            rotate_left
            · simp only [Act.put, List.setIfInBounds_toArray, List.set_cons_zero, List.set_cons_succ, i64_w, i32_w]
              rfl
            refine pure_ (i := 1) (N := some 49) (v := ?_) (a' := ?_) #[true, true, false, false, false, false, false, false, false, false, false, false, false, false, false, false, false, false, false, false, false, false, false, false, false, false, false, false, false, false, false, false, false, false, false, false, false, false, false, false, false, false, false, false, false, false] rfl rfl (any_of HT_.out (by kernel_rfl)) (fun _ _ _ h => h) (Or.inl ⟨by rfl, ?_⟩) ?_ ?_
            rotate_left
            · intro w'
              go_simp
              with_reducible rfl
            rotate_left
            · simp only [Act.put, List.setIfInBounds_toArray, List.set_cons_zero, List.set_cons_succ, i64_w, i32_w]
              rfl
            refine pure_ (i := 2) (N := some 50) (v := ?_) (a' := ?_) #[true, true, true, false, false, false, false, false, false, false, false, false, false, false, false, false, false, false, false, false, false, false, false, false, false, false, false, false, false, false, false, false, false, false, false, false, false, false, false, false, false, false, false, false, false, false] rfl rfl (any_of HT_.out (by kernel_rfl)) (fun _ _ _ h => h) (Or.inl ⟨by rfl, ?_⟩) ?_ ?_
            rotate_left
            · intro w'
              go_simp
              with_reducible rfl
            rotate_left
            · simp only [Act.put, List.setIfInBounds_toArray, List.set_cons_zero, List.set_cons_succ, i64_w, i32_w]
              rfl
            refine pure_ (i := 3) (N := some 51) (v := undef) (a' := ?_) #[true, true, true, true, false, false, false, false, false, false, false, false, false, false, false, false, false, false, false, false, false, false, false, false, false, false, false, false, false, false, false, false, false, false, false, false, false, false, false, false, false, false, false, false, false, false] rfl rfl (any_of HT_.out (by kernel_rfl)) (fun _ _ _ h => h) (Or.inr ⟨by rfl, rfl⟩) ?_ ?_
            rotate_left
            · simp only [Act.put, List.setIfInBounds_toArray, List.set_cons_zero, List.set_cons_succ, i64_w, i32_w]
              rfl
            refine pure_ (i := 4) (N := some 52) (v := undef) (a' := ?_) #[true, true, true, true, true, false, false, false, false, false, false, false, false, false, false, false, false, false, false, false, false, false, false, false, false, false, false, false, false, false, false, false, false, false, false, false, false, false, false, false, false, false, false, false, false, false] rfl rfl (any_of HT_.out (by kernel_rfl)) (fun _ _ _ h => h) (Or.inr ⟨by rfl, rfl⟩) ?_ ?_
            rotate_left
            · simp only [Act.put, List.setIfInBounds_toArray, List.set_cons_zero, List.set_cons_succ, i64_w, i32_w]
              rfl
            refine pure_ (i := 5) (N := some 53) (v := undef) (a' := ?_) #[true, true, true, true, true, true, false, false, false, false, false, false, false, false, false, false, false, false, false, false, false, false, false, false, false, false, false, false, false, false, false, false, false, false, false, false, false, false, false, false, false, false, false, false, false, false] rfl rfl (any_of HT_.out (by kernel_rfl)) (fun _ _ _ h => h) (Or.inr ⟨by rfl, rfl⟩) ?_ ?_
            rotate_left
            · simp only [Act.put, List.setIfInBounds_toArray, List.set_cons_zero, List.set_cons_succ, i64_w, i32_w]
              rfl
            refine pure_ (i := 6) (N := some 54) (v := undef) (a' := ?_) #[true, true, true, true, true, true, true, false, false, false, false, false, false, false, false, false, false, false, false, false, false, false, false, false, false, false, false, false, false, false, false, false, false, false, false, false, false, false, false, false, false, false, false, false, false, false] rfl rfl (any_of HT_.out (by kernel_rfl)) (fun _ _ _ h => h) (Or.inr ⟨by rfl, rfl⟩) ?_ ?_
            rotate_left
            · simp only [Act.put, List.setIfInBounds_toArray, List.set_cons_zero, List.set_cons_succ, i64_w, i32_w]
              rfl
            refine pure_ (i := 7) (N := some 55) (v := undef) (a' := ?_) #[true, true, true, true, true, true, true, true, false, false, false, false, false, false, false, false, false, false, false, false, false, false, false, false, false, false, false, false, false, false, false, false, false, false, false, false, false, false, false, false, false, false, false, false, false, false] rfl rfl (any_of HT_.out (by kernel_rfl)) (fun _ _ _ h => h) (Or.inr ⟨by rfl, rfl⟩) ?_ ?_
            rotate_left
            · simp only [Act.put, List.setIfInBounds_toArray, List.set_cons_zero, List.set_cons_succ, i64_w, i32_w]
              rfl
            refine pure_ (i := 8) (N := some 56) (v := undef) (a' := ?_) #[true, true, true, true, true, true, true, true, true, false, false, false, false, false, false, false, false, false, false, false, false, false, false, false, false, false, false, false, false, false, false, false, false, false, false, false, false, false, false, false, false, false, false, false, false, false] rfl rfl (any_of HT_.out (by kernel_rfl)) (fun _ _ _ h => h) (Or.inr ⟨by rfl, rfl⟩) ?_ ?_
            rotate_left
            · simp only [Act.put, List.setIfInBounds_toArray, List.set_cons_zero, List.set_cons_succ, i64_w, i32_w]
              rfl
            refine pure_ (i := 9) (N := some 57) (v := undef) (a' := ?_) #[true, true, true, true, true, true, true, true, true, true, false, false, false, false, false, false, false, false, false, false, false, false, false, false, false, false, false, false, false, false, false, false, false, false, false, false, false, false, false, false, false, false, false, false, false, false] rfl rfl (any_of HT_.out (by kernel_rfl)) (fun _ _ _ h => h) (Or.inr ⟨by rfl, rfl⟩) ?_ ?_
            rotate_left
            · simp only [Act.put, List.setIfInBounds_toArray, List.set_cons_zero, List.set_cons_succ, i64_w, i32_w]
              rfl
            refine pure_ (i := 10) (N := some 58) (v := undef) (a' := ?_) #[true, true, true, true, true, true, true, true, true, true, true, false, false, false, false, false, false, false, false, false, false, false, false, false, false, false, false, false, false, false, false, false, false, false, false, false, false, false, false, false, false, false, false, false, false, false] rfl rfl (any_of HT_.out (by kernel_rfl)) (fun _ _ _ h => h) (Or.inr ⟨by rfl, rfl⟩) ?_ ?_
            rotate_left
            · simp only [Act.put, List.setIfInBounds_toArray, List.set_cons_zero, List.set_cons_succ, i64_w, i32_w]
              rfl
            refine pure_ (i := 11) (N := some 59) (v := undef) (a' := ?_) #[true, true, true, true, true, true, true, true, true, true, true, true, false, false, false, false, false, false, false, false, false, false, false, false, false, false, false, false, false, false, false, false, false, false, false, false, false, false, false, false, false, false, false, false, false, false] rfl rfl (any_of HT_.out (by kernel_rfl)) (fun _ _ _ h => h) (Or.inr ⟨by rfl, rfl⟩) ?_ ?_
            rotate_left
            · simp only [Act.put, List.setIfInBounds_toArray, List.set_cons_zero, List.set_cons_succ, i64_w, i32_w]
              rfl
            refine pure_ (i := 12) (N := some 60) (v := undef) (a' := ?_) #[true, true, true, true, true, true, true, true, true, true, true, true, true, false, false, false, false, false, false, false, false, false, false, false, false, false, false, false, false, false, false, false, false, false, false, false, false, false, false, false, false, false, false, false, false, false] rfl rfl (any_of HT_.out (by kernel_rfl)) (fun _ _ _ h => h) (Or.inr ⟨by rfl, rfl⟩) ?_ ?_
            rotate_left
            · simp only [Act.put, List.setIfInBounds_toArray, List.set_cons_zero, List.set_cons_succ, i64_w, i32_w]
              rfl
            refine pure_ (i := 13) (N := some 61) (v := undef) (a' := ?_) #[true, true, true, true, true, true, true, true, true, true, true, true, true, true, false, false, false, false, false, false, false, false, false, false, false, false, false, false, false, false, false, false, false, false, false, false, false, false, false, false, false, false, false, false, false, false] rfl rfl (any_of HT_.out (by kernel_rfl)) (fun _ _ _ h => h) (Or.inr ⟨by rfl, rfl⟩) ?_ ?_
            rotate_left
            · simp only [Act.put, List.setIfInBounds_toArray, List.set_cons_zero, List.set_cons_succ, i64_w, i32_w]
              rfl
            refine pure_ (i := 14) (N := some 62) (v := undef) (a' := ?_) #[true, true, true, true, true, true, true, true, true, true, true, true, true, true, true, false, false, false, false, false, false, false, false, false, false, false, false, false, false, false, false, false, false, false, false, false, false, false, false, false, false, false, false, false, false, false] rfl rfl (any_of HT_.out (by kernel_rfl)) (fun _ _ _ h => h) (Or.inr ⟨by rfl, rfl⟩) ?_ ?_
            rotate_left
            · simp only [Act.put, List.setIfInBounds_toArray, List.set_cons_zero, List.set_cons_succ, i64_w, i32_w]
              rfl
            refine pure_ (i := 15) (N := some 63) (v := undef) (a' := ?_) #[true, true, true, true, true, true, true, true, true, true, true, true, true, true, true, true, false, false, false, false, false, false, false, false, false, false, false, false, false, false, false, false, false, false, false, false, false, false, false, false, false, false, false, false, false, false] rfl rfl (any_of HT_.out (by kernel_rfl)) (fun _ _ _ h => h) (Or.inr ⟨by rfl, rfl⟩) ?_ ?_
            rotate_left
            · simp only [Act.put, List.setIfInBounds_toArray, List.set_cons_zero, List.set_cons_succ, i64_w, i32_w]
              rfl
            refine pure_ (i := 16) (N := some 64) (v := undef) (a' := ?_) #[true, true, true, true, true, true, true, true, true, true, true, true, true, true, true, true, true, false, false, false, false, false, false, false, false, false, false, false, false, false, false, false, false, false, false, false, false, false, false, false, false, false, false, false, false, false] rfl rfl (any_of HT_.out (by kernel_rfl)) (fun _ _ _ h => h) (Or.inr ⟨by rfl, rfl⟩) ?_ ?_
            rotate_left
            · simp only [Act.put, List.setIfInBounds_toArray, List.set_cons_zero, List.set_cons_succ, i64_w, i32_w]
              rfl
            refine pure_ (i := 17) (N := some 65) (v := undef) (a' := ?_) #[true, true, true, true, true, true, true, true, true, true, true, true, true, true, true, true, true, true, false, false, false, false, false, false, false, false, false, false, false, false, false, false, false, false, false, false, false, false, false, false, false, false, false, false, false, false] rfl rfl (any_of HT_.out (by kernel_rfl)) (fun _ _ _ h => h) (Or.inr ⟨by rfl, rfl⟩) ?_ ?_
            rotate_left
            · simp only [Act.put, List.setIfInBounds_toArray, List.set_cons_zero, List.set_cons_succ, i64_w, i32_w]
              rfl
            refine pure_ (i := 18) (N := some 66) (v := undef) (a' := ?_) #[true, true, true, true, true, true, true, true, true, true, true, true, true, true, true, true, true, true, true, false, false, false, false, false, false, false, false, false, false, false, false, false, false, false, false, false, false, false, false, false, false, false, false, false, false, false] rfl rfl (any_of HT_.out (by kernel_rfl)) (fun _ _ _ h => h) (Or.inr ⟨by rfl, rfl⟩) ?_ ?_
            rotate_left
            · simp only [Act.put, List.setIfInBounds_toArray, List.set_cons_zero, List.set_cons_succ, i64_w, i32_w]
              rfl
            refine pure_ (i := 19) (N := some 67) (v := undef) (a' := ?_) #[true, true, true, true, true, true, true, true, true, true, true, true, true, true, true, true, true, true, true, true, false, false, false, false, false, false, false, false, false, false, false, false, false, false, false, false, false, false, false, false, false, false, false, false, false, false] rfl rfl (any_of HT_.out (by kernel_rfl)) (fun _ _ _ h => h) (Or.inr ⟨by rfl, rfl⟩) ?_ ?_
            rotate_left
            · simp only [Act.put, List.setIfInBounds_toArray, List.set_cons_zero, List.set_cons_succ, i64_w, i32_w]
              rfl
            refine pure_ (i := 20) (N := some 68) (v := undef) (a' := ?_) #[true, true, true, true, true, true, true, true, true, true, true, true, true, true, true, true, true, true, true, true, true, false, false, false, false, false, false, false, false, false, false, false, false, false, false, false, false, false, false, false, false, false, false, false, false, false] rfl rfl (any_of HT_.out (by kernel_rfl)) (fun _ _ _ h => h) (Or.inr ⟨by rfl, rfl⟩) ?_ ?_
            rotate_left
            · simp only [Act.put, List.setIfInBounds_toArray, List.set_cons_zero, List.set_cons_succ, i64_w, i32_w]
              rfl
            refine pure_ (i := 21) (N := some 69) (v := undef) (a' := ?_) #[true, true, true, true, true, true, true, true, true, true, true, true, true, true, true, true, true, true, true, true, true, true, false, false, false, false, false, false, false, false, false, false, false, false, false, false, false, false, false, false, false, false, false, false, false, false] rfl rfl (any_of HT_.out (by kernel_rfl)) (fun _ _ _ h => h) (Or.inr ⟨by rfl, rfl⟩) ?_ ?_
            rotate_left
            · simp only [Act.put, List.setIfInBounds_toArray, List.set_cons_zero, List.set_cons_succ, i64_w, i32_w]
              rfl
            refine pure_ (i := 22) (N := some 70) (v := undef) (a' := ?_) #[true, true, true, true, true, true, true, true, true, true, true, true, true, true, true, true, true, true, true, true, true, true, true, false, false, false, false, false, false, false, false, false, false, false, false, false, false, false, false, false, false, false, false, false, false, false] rfl rfl (any_of HT_.out (by kernel_rfl)) (fun _ _ _ h => h) (Or.inr ⟨by rfl, rfl⟩) ?_ ?_
            rotate_left
            · simp only [Act.put, List.setIfInBounds_toArray, List.set_cons_zero, List.set_cons_succ, i64_w, i32_w]
              rfl
            refine pure_ (i := 23) (N := some 71) (v := undef) (a' := ?_) #[true, true, true, true, true, true, true, true, true, true, true, true, true, true, true, true, true, true, true, true, true, true, true, true, false, false, false, false, false, false, false, false, false, false, false, false, false, false, false, false, false, false, false, false, false, false] rfl rfl (any_of HT_.out (by kernel_rfl)) (fun _ _ _ h => h) (Or.inr ⟨by rfl, rfl⟩) ?_ ?_
            rotate_left
            · simp only [Act.put, List.setIfInBounds_toArray, List.set_cons_zero, List.set_cons_succ, i64_w, i32_w]
              rfl
            refine pure_ (i := 24) (N := some 72) (v := undef) (a' := ?_) #[true, true, true, true, true, true, true, true, true, true, true, true, true, true, true, true, true, true, true, true, true, true, true, true, true, false, false, false, false, false, false, false, false, false, false, false, false, false, false, false, false, false, false, false, false, false] rfl rfl (any_of HT_.out (by kernel_rfl)) (fun _ _ _ h => h) (Or.inr ⟨by rfl, rfl⟩) ?_ ?_
            rotate_left
            · simp only [Act.put, List.setIfInBounds_toArray, List.set_cons_zero, List.set_cons_succ, i64_w, i32_w]
              rfl
            refine pure_ (i := 25) (N := some 73) (v := undef) (a' := ?_) #[true, true, true, true, true, true, true, true, true, true, true, true, true, true, true, true, true, true, true, true, true, true, true, true, true, true, false, false, false, false, false, false, false, false, false, false, false, false, false, false, false, false, false, false, false, false] rfl rfl (any_of HT_.out (by kernel_rfl)) (fun _ _ _ h => h) (Or.inr ⟨by rfl, rfl⟩) ?_ ?_
            rotate_left
            · simp only [Act.put, List.setIfInBounds_toArray, List.set_cons_zero, List.set_cons_succ, i64_w, i32_w]
              rfl
            refine pure_ (i := 26) (N := some 74) (v := undef) (a' := ?_) #[true, true, true, true, true, true, true, true, true, true, true, true, true, true, true, true, true, true, true, true, true, true, true, true, true, true, true, false, false, false, false, false, false, false, false, false, false, false, false, false, false, false, false, false, false, false] rfl rfl (any_of HT_.out (by kernel_rfl)) (fun _ _ _ h => h) (Or.inr ⟨by rfl, rfl⟩) ?_ ?_
            rotate_left
            · simp only [Act.put, List.setIfInBounds_toArray, List.set_cons_zero, List.set_cons_succ, i64_w, i32_w]
              rfl
            refine pure_ (i := 27) (N := some 75) (v := undef) (a' := ?_) #[true, true, true, true, true, true, true, true, true, true, true, true, true, true, true, true, true, true, true, true, true, true, true, true, true, true, true, true, false, false, false, false, false, false, false, false, false, false, false, false, false, false, false, false, false, false] rfl rfl (any_of HT_.out (by kernel_rfl)) (fun _ _ _ h => h) (Or.inr ⟨by rfl, rfl⟩) ?_ ?_
            rotate_left
            · simp only [Act.put, List.setIfInBounds_toArray, List.set_cons_zero, List.set_cons_succ, i64_w, i32_w]
              rfl
            refine pure_ (i := 28) (N := some 76) (v := undef) (a' := ?_) #[true, true, true, true, true, true, true, true, true, true, true, true, true, true, true, true, true, true, true, true, true, true, true, true, true, true, true, true, true, false, false, false, false, false, false, false, false, false, false, false, false, false, false, false, false, false] rfl rfl (any_of HT_.out (by kernel_rfl)) (fun _ _ _ h => h) (Or.inr ⟨by rfl, rfl⟩) ?_ ?_
            rotate_left
            · simp only [Act.put, List.setIfInBounds_toArray, List.set_cons_zero, List.set_cons_succ, i64_w, i32_w]
              rfl
            refine pure_ (i := 29) (N := some 77) (v := undef) (a' := ?_) #[true, true, true, true, true, true, true, true, true, true, true, true, true, true, true, true, true, true, true, true, true, true, true, true, true, true, true, true, true, true, false, false, false, false, false, false, false, false, false, false, false, false, false, false, false, false] rfl rfl (any_of HT_.out (by kernel_rfl)) (fun _ _ _ h => h) (Or.inr ⟨by rfl, rfl⟩) ?_ ?_
            rotate_left
            · simp only [Act.put, List.setIfInBounds_toArray, List.set_cons_zero, List.set_cons_succ, i64_w, i32_w]
              rfl
            refine pure_ (i := 30) (N := some 78) (v := undef) (a' := ?_) #[true, true, true, true, true, true, true, true, true, true, true, true, true, true, true, true, true, true, true, true, true, true, true, true, true, true, true, true, true, true, true, false, false, false, false, false, false, false, false, false, false, false, false, false, false, false] rfl rfl (any_of HT_.out (by kernel_rfl)) (fun _ _ _ h => h) (Or.inr ⟨by rfl, rfl⟩) ?_ ?_
            rotate_left
            · simp only [Act.put, List.setIfInBounds_toArray, List.set_cons_zero, List.set_cons_succ, i64_w, i32_w]
              rfl
            refine pure_ (i := 31) (N := some 79) (v := undef) (a' := ?_) #[true, true, true, true, true, true, true, true, true, true, true, true, true, true, true, true, true, true, true, true, true, true, true, true, true, true, true, true, true, true, true, true, false, false, false, false, false, false, false, false, false, false, false, false, false, false] rfl rfl (any_of HT_.out (by kernel_rfl)) (fun _ _ _ h => h) (Or.inr ⟨by rfl, rfl⟩) ?_ ?_
            rotate_left
            · simp only [Act.put, List.setIfInBounds_toArray, List.set_cons_zero, List.set_cons_succ, i64_w, i32_w]
              rfl
            refine pure_ (i := 32) (N := some 80) (v := undef) (a' := ?_) #[true, true, true, true, true, true, true, true, true, true, true, true, true, true, true, true, true, true, true, true, true, true, true, true, true, true, true, true, true, true, true, true, true, false, false, false, false, false, false, false, false, false, false, false, false, false] rfl rfl (any_of HT_.out (by kernel_rfl)) (fun _ _ _ h => h) (Or.inr ⟨by rfl, rfl⟩) ?_ ?_
            rotate_left
            · simp only [Act.put, List.setIfInBounds_toArray, List.set_cons_zero, List.set_cons_succ, i64_w, i32_w]
              rfl
            refine pure_ (i := 33) (N := some 81) (v := undef) (a' := ?_) #[true, true, true, true, true, true, true, true, true, true, true, true, true, true, true, true, true, true, true, true, true, true, true, true, true, true, true, true, true, true, true, true, true, true, false, false, false, false, false, false, false, false, false, false, false, false] rfl rfl (any_of HT_.out (by kernel_rfl)) (fun _ _ _ h => h) (Or.inr ⟨by rfl, rfl⟩) ?_ ?_
            rotate_left
            · simp only [Act.put, List.setIfInBounds_toArray, List.set_cons_zero, List.set_cons_succ, i64_w, i32_w]
              rfl
            refine pure_ (i := 34) (N := some 82) (v := undef) (a' := ?_) #[true, true, true, true, true, true, true, true, true, true, true, true, true, true, true, true, true, true, true, true, true, true, true, true, true, true, true, true, true, true, true, true, true, true, true, false, false, false, false, false, false, false, false, false, false, false] rfl rfl (any_of HT_.out (by kernel_rfl)) (fun _ _ _ h => h) (Or.inr ⟨by rfl, rfl⟩) ?_ ?_
            rotate_left
            · simp only [Act.put, List.setIfInBounds_toArray, List.set_cons_zero, List.set_cons_succ, i64_w, i32_w]
              rfl
            refine pure_ (i := 35) (N := some 83) (v := undef) (a' := ?_) #[true, true, true, true, true, true, true, true, true, true, true, true, true, true, true, true, true, true, true, true, true, true, true, true, true, true, true, true, true, true, true, true, true, true, true, true, false, false, false, false, false, false, false, false, false, false] rfl rfl (any_of HT_.out (by kernel_rfl)) (fun _ _ _ h => h) (Or.inr ⟨by rfl, rfl⟩) ?_ ?_
            rotate_left
            · simp only [Act.put, List.setIfInBounds_toArray, List.set_cons_zero, List.set_cons_succ, i64_w, i32_w]
              rfl
            refine pure_ (i := 36) (N := some 84) (v := ?_) (a' := ?_) #[true, true, true, true, true, true, true, true, true, true, true, true, true, true, true, true, true, true, true, true, true, true, true, true, true, true, true, true, true, true, true, true, true, true, true, true, true, false, false, false, false, false, false, false, false, false] rfl rfl (any_of HT_.out (by kernel_rfl)) (fun _ _ _ h => h) (Or.inl ⟨by rfl, ?_⟩) ?_ ?_
            rotate_left
            · intro w'
              go_simp
              with_reducible rfl
            rotate_left
            · simp only [Act.put, List.setIfInBounds_toArray, List.set_cons_zero, List.set_cons_succ, i64_w, i32_w]
              rfl
            refine pure_ (i := 37) (N := some 85) (v := ?_) (a' := ?_) #[true, true, true, true, true, true, true, true, true, true, true, true, true, true, true, true, true, true, true, true, true, true, true, true, true, true, true, true, true, true, true, true, true, true, true, true, true, true, false, false, false, false, false, false, false, false] rfl rfl (any_of HT_.out (by kernel_rfl)) (fun _ _ _ h => h) (Or.inl ⟨by rfl, ?_⟩) ?_ ?_
            rotate_left
            · intro w'
              go_simp
              with_reducible rfl
            rotate_left
            · simp only [Act.put, List.setIfInBounds_toArray, List.set_cons_zero, List.set_cons_succ, i64_w, i32_w]
              rfl
            refine pure_ (i := 38) (N := some 86) (v := ?_) (a' := ?_) #[true, true, true, true, true, true, true, true, true, true, true, true, true, true, true, true, true, true, true, true, true, true, true, true, true, true, true, true, true, true, true, true, true, true, true, true, true, true, true, false, false, false, false, false, false, false] rfl rfl (any_of HT_.out (by kernel_rfl)) (fun _ _ _ h => h) (Or.inl ⟨by rfl, ?_⟩) ?_ ?_
            rotate_left
            · intro w'
              go_simp
              with_reducible rfl
            rotate_left
            · simp only [Act.put, List.setIfInBounds_toArray, List.set_cons_zero, List.set_cons_succ, i64_w, i32_w]
              rfl
            refine pure_ (i := 39) (N := some 87) (v := ?_) (a' := ?_) #[true, true, true, true, true, true, true, true, true, true, true, true, true, true, true, true, true, true, true, true, true, true, true, true, true, true, true, true, true, true, true, true, true, true, true, true, true, true, true, true, false, false, false, false, false, false] rfl rfl (any_of HT_.out (by kernel_rfl)) (fun _ _ _ h => h) (Or.inl ⟨by rfl, ?_⟩) ?_ ?_
            rotate_left
            · intro w'
              go_simp
              with_reducible rfl
            rotate_left
            · simp only [Act.put, List.setIfInBounds_toArray, List.set_cons_zero, List.set_cons_succ, i64_w, i32_w]
              rfl
            refine pure_ (i := 42) (N := some 90) (v := ?_) (a' := ?_) #[true, true, true, true, true, true, true, true, true, true, true, true, true, true, true, true, true, true, true, true, true, true, true, true, true, true, true, true, true, true, true, true, true, true, true, true, true, true, true, true, false, false, true, false, false, false] rfl rfl (any_of HT_.out (by kernel_rfl)) (fun _ _ _ h => h) (Or.inl ⟨by rfl, ?_⟩) ?_ ?_
            rotate_left
            · intro w'
              go_simp
              with_reducible rfl
            rotate_left
            · simp only [Act.put, List.setIfInBounds_toArray, List.set_cons_zero, List.set_cons_succ, i64_w, i32_w]
              rfl
            refine pure_ (i := 43) (N := some 91) (v := ?_) (a' := ?_) #[true, true, true, true, true, true, true, true, true, true, true, true, true, true, true, true, true, true, true, true, true, true, true, true, true, true, true, true, true, true, true, true, true, true, true, true, true, true, true, true, false, false, true, true, false, false] rfl rfl (any_of HT_.out (by kernel_rfl)) (fun _ _ _ h => h) (Or.inl ⟨by rfl, ?_⟩) ?_ ?_
            rotate_left
            · intro w'
              go_simp
              with_reducible rfl
            rotate_left
            · simp only [Act.put, List.setIfInBounds_toArray, List.set_cons_zero, List.set_cons_succ, i64_w, i32_w]
              rfl
            refine take_ (i := 40) (N := some 88) (v := ?_) (a' := ?_) #[true, true, true, true, true, true, true, true, true, true, true, true, true, true, true, true, true, true, true, true, true, true, true, true, true, true, true, true, true, true, true, true, true, true, true, true, true, true, true, true, true, false, true, true, false, false] rfl rfl (take_ofW HT_.out HW_.out (by kernel_rfl)) (fun _ _ _ h => h) (Or.inl ⟨by rfl, ?_⟩) hHeld ?_ ?_
            rotate_left
            · rintro w' ⟨s0, s1, s2⟩
              go_simp
              with_reducible rfl
            rotate_left
            · simp only [Act.put, List.setIfInBounds_toArray, List.set_cons_zero, List.set_cons_succ, i64_w, i32_w]
              rfl
            refine pure_ (i := 41) (N := some 89) (v := ?_) (a' := ?_) #[true, true, true, true, true, true, true, true, true, true, true, true, true, true, true, true, true, true, true, true, true, true, true, true, true, true, true, true, true, true, true, true, true, true, true, true, true, true, true, true, true, true, true, true, false, false] rfl rfl (any_of HT_.out (by kernel_rfl)) (fun _ _ _ h => h) (Or.inl ⟨by rfl, ?_⟩) ?_ ?_
            rotate_left
            · intro w'
              go_simp
              with_reducible rfl
            rotate_left
            · simp only [Act.put, List.setIfInBounds_toArray, List.set_cons_zero, List.set_cons_succ, i64_w, i32_w]
              rfl
            refine pure_ (i := 44) (N := some 92) (v := ?_) (a' := ?_) #[true, true, true, true, true, true, true, true, true, true, true, true, true, true, true, true, true, true, true, true, true, true, true, true, true, true, true, true, true, true, true, true, true, true, true, true, true, true, true, true, true, true, true, true, true, false] rfl rfl (any_of HT_.out (by kernel_rfl)) (fun _ _ _ h => h) (Or.inl ⟨by rfl, ?_⟩) ?_ ?_
            rotate_left
            · intro w'
              go_simp
              with_reducible rfl
            rotate_left
            · simp only [Act.put, List.setIfInBounds_toArray, List.set_cons_zero, List.set_cons_succ, i64_w, i32_w]
              rfl
            refine pure_ (i := 45) (N := some 93) (v := ?_) (a' := ?_) #[true, true, true, true, true, true, true, true, true, true, true, true, true, true, true, true, true, true, true, true, true, true, true, true, true, true, true, true, true, true, true, true, true, true, true, true, true, true, true, true, true, true, true, true, true, true] rfl rfl (any_of HT_.out (by kernel_rfl)) (fun _ _ _ h => h) (Or.inl ⟨by rfl, ?_⟩) ?_ ?_
            rotate_left
            · intro w'
              go_simp
              with_reducible rfl
            rotate_left
            · simp only [Act.put, List.setIfInBounds_toArray, List.set_cons_zero, List.set_cons_succ, i64_w, i32_w]
              rfl
            refine done_ (done_of HT_.out (by kernel_rfl)) ?_
            clear hHeld
            have PX := PD
            clear PD
            go_wp2
            go_loopg [12, 96] es.length (fun kq v12 v96 wl => ∃ (m : Nat) (mm : Int) (f : Bool), m + kq = es.length ∧ v96 = .int .i64 mm ∧ v12 = .bool f ∧ Aside0 (mm = (m : Int)) ∧ Aside0 (f = ((es.map toS).take m).any (eqS x)) ∧ Aside0 (Below wd.heap.size wd wl))
            case atStart => exact ⟨0, 0, false, by omega, rfl, rfl, ⟨rfl⟩, ⟨rfl⟩, ⟨Below.refl _ _⟩⟩
            case round =>
              obtain ⟨m, mm, f, hm, rfl, rfl, HMM, HF, BM⟩ := hrel
              have HM := Aside0.mk hm
              by_cases hlm : m < es.length
              · have hcm : decide (mm < (es.length : Int)) = true := decide_eq_true (by have := HMM.out; omega)
                have HLM := Aside0.mk hlm
                have p4 : 0 ≤ mm := by have := HMM.out; omega
                have q4 : mm < ((es.map toS).length : Int) := by rw [List.length_map]; have := HMM.out; omega
                obtain ⟨ad9, e9, hw0, hw1, hw2⟩ := at_T42 (Kd.C_below C8.out (below_step BD.out BM.out)) mm p4 q4
                subst e9
                have hlm' : m < (es.map toS).length := by rw [List.length_map]; exact hlm
                have hrd : rd_T42 (es.map toS) mm = (es.map toS)[m] := by rw [HMM.out]; simp [rd_T42, List.getD, hlm]
                have TKM := Aside0.mk (take_any (es.map toS) (eqS x) hlm')
                rw [hrd] at hw0 hw1 hw2
                generalize (es.map toS)[m] = y at hw0 hw1 hw2 TKM
                have PXM := Aside0.mk (blk_below PX.out BM.out)
                rw [List.length_map] at q4
                clear hm hlm hrd hlm'
                cases f with
                | true =>
                  go_wp2_with (first
                    | ((with_reducible refine gate_dst (N := 14) rfl ?_); refine box_event ?hg (N := 14) ?hd (cs := #[.int .u32 0, .int .i64 0, .int .i64 0]) (t := 42) ?hr ?_; (case hd => rfl); (case hg => rfl); (case hr => first | (go_simp; done) | (go_simp; rfl)); intro gy hgy w13 hbox hb; have BO := Aside0.mk hbox; have HB5 := Aside0.mk hb; have HGgy := Aside0.mk hgy; have PX13 := Aside0.mk (blk_below PXM.out hb); clear hgy hbox hb)
                    | ((with_reducible refine gate_ (.store 42 (.tmp 14) (.tmp 99)) rfl ?_); refine Hand.wpList_store_blk rfl rfl 42 (.tmp 14) (.tmp 99) rfl [.int .u32 y.f0.f0, .int .i64 y.f0.f1, .int .i64 y.f1] #[.int .u32 y.f0.f0, .int .i64 y.f0.f1, .int .i64 y.f1] rfl rfl BO.out rfl size42 (Nat.le_refl 3) (fun u hu => by simp at hu; rcases hu with rfl | rfl | rfl <;> rfl) rfl (fun w14 hp => ?_); have PY := Aside0.mk hp.box; have HB7 := Aside0.mk (hp.bl _ HB5.out (Nat.le_of_eq HGgy.out.symm)); have HM6 := Aside0.mk (below_step BM.out HB7.out); have PX14 := Aside0.mk (hp.keep PX13.out (by have h1 := blk_lt PXM.out; have h2 := HGgy.out; omega)); have y0 : w14.cell? ⟨gy, 0, none⟩ = some (.int .u32 y.f0.f0) := (blk_cell PY.out 0).trans rfl; have y1 : w14.cell? ⟨gy, 1, none⟩ = some (.int .i64 y.f0.f1) := (blk_cell PY.out 1).trans rfl; have y2 : w14.cell? ⟨gy, 2, none⟩ = some (.int .i64 y.f1) := (blk_cell PY.out 2).trans rfl; have x0 : w14.cell? ⟨gx, 0, none⟩ = some (.int .u32 x.f0.f0) := (blk_cell PX14.out 0).trans rfl; have x1 : w14.cell? ⟨gx, 1, none⟩ = some (.int .i64 x.f0.f1) := (blk_cell PX14.out 1).trans rfl; have x2 : w14.cell? ⟨gx, 2, none⟩ = some (.int .i64 x.f1) := (blk_cell PX14.out 2).trans rfl; clear hw0 hw1 hw2; clear hp))
                  go_roundg (es.length - (m + 1))
                  case measure => have := HM.out; have := HLM.out; omega
                  case rel => exact ⟨m + 1, mm + 1, true, by have := HLM.out; omega, by rw [wrap64_id _ (by have := HMM.out; omega) (by have := HMM.out; have := HLM.out; have := HES.out; omega)], rfl, ⟨by have := HMM.out; omega⟩, ⟨by rw [TKM.out, ← HF.out]; rfl⟩, HM6⟩
                | false =>
                  go_wp2_with (first
                    | ((with_reducible refine gate_dst (N := 14) rfl ?_); refine box_event ?hg (N := 14) ?hd (cs := #[.int .u32 0, .int .i64 0, .int .i64 0]) (t := 42) ?hr ?_; (case hd => rfl); (case hg => rfl); (case hr => first | (go_simp; done) | (go_simp; rfl)); intro gy hgy w13 hbox hb; have BO := Aside0.mk hbox; have HB5 := Aside0.mk hb; have HGgy := Aside0.mk hgy; have PX13 := Aside0.mk (blk_below PXM.out hb); clear hgy hbox hb)
                    | ((with_reducible refine gate_ (.store 42 (.tmp 14) (.tmp 99)) rfl ?_); refine Hand.wpList_store_blk rfl rfl 42 (.tmp 14) (.tmp 99) rfl [.int .u32 y.f0.f0, .int .i64 y.f0.f1, .int .i64 y.f1] #[.int .u32 y.f0.f0, .int .i64 y.f0.f1, .int .i64 y.f1] rfl rfl BO.out rfl size42 (Nat.le_refl 3) (fun u hu => by simp at hu; rcases hu with rfl | rfl | rfl <;> rfl) rfl (fun w14 hp => ?_); have PY := Aside0.mk hp.box; have HB7 := Aside0.mk (hp.bl _ HB5.out (Nat.le_of_eq HGgy.out.symm)); have HM6 := Aside0.mk (below_step BM.out HB7.out); have PX14 := Aside0.mk (hp.keep PX13.out (by have h1 := blk_lt PXM.out; have h2 := HGgy.out; omega)); have y0 : w14.cell? ⟨gy, 0, none⟩ = some (.int .u32 y.f0.f0) := (blk_cell PY.out 0).trans rfl; have y1 : w14.cell? ⟨gy, 1, none⟩ = some (.int .i64 y.f0.f1) := (blk_cell PY.out 1).trans rfl; have y2 : w14.cell? ⟨gy, 2, none⟩ = some (.int .i64 y.f1) := (blk_cell PY.out 2).trans rfl; have x0 : w14.cell? ⟨gx, 0, none⟩ = some (.int .u32 x.f0.f0) := (blk_cell PX14.out 0).trans rfl; have x1 : w14.cell? ⟨gx, 1, none⟩ = some (.int .i64 x.f0.f1) := (blk_cell PX14.out 1).trans rfl; have x2 : w14.cell? ⟨gx, 2, none⟩ = some (.int .i64 x.f1) := (blk_cell PX14.out 2).trans rfl; clear hw0 hw1 hw2; clear hp))
                  go_roundg (es.length - (m + 1))
                  case measure => have := HM.out; have := HLM.out; omega
                  case rel => exact ⟨m + 1, mm + 1, eqS x y, by have := HLM.out; omega, by rw [wrap64_id _ (by have := HMM.out; omega) (by have := HMM.out; have := HLM.out; have := HES.out; omega)], rfl, ⟨by have := HMM.out; omega⟩, ⟨by rw [TKM.out, ← HF.out]; rfl⟩, HM6⟩
              · have hcm : decide (mm < (es.length : Int)) = false := decide_eq_false (by have := HMM.out; omega)
                obtain rfl : m = es.length := by omega
                have hft : f = true := by rw [HF.out, List.take_of_length_le (by rw [List.length_map]; exact Nat.le_refl _)]; exact any_eqS MEM.out
                subst hft
                clear hm hlm
                go_wp2
                go_roundg (es.length - (j + 1))
                case measure => have := HJ.out; have := HLJ.out; omega
                case rel => exact ⟨j + 1, ji + 1, by have := HLJ.out; omega, by rw [wrap64_id _ (by have := HJI.out; omega) (by have := HJI.out; have := HLJ.out; have := HES.out; omega)], ⟨by have := HJI.out; omega⟩, ⟨below_step BD.out BM.out⟩⟩
          · have hcp : decide (0 < ji) = true := decide_eq_true hj0
            obtain ⟨m0, hm0⟩ : ∃ m0 : Nat, j = m0 + 1 := ⟨j - 1, by have := HJI.out; omega⟩
            obtain ⟨mi, hmi⟩ : ∃ mi : Int, mi = (m0 : Int) := ⟨_, rfl⟩
            have hw1 : wrap64 (ji - 1) = mi := by have := HJI.out; have := HLJ.out; have := HES.out; rw [wrap64_id _ (by omega) (by omega)]; omega
            have hw2 : IntKind.i64.wrap (ji - 1) = mi := (i64_w _).trans hw1
            have p2 : 0 ≤ mi := by omega
            have q3 : mi < ((es.map toS).length : Int) := by rw [List.length_map]; have := HLJ.out; omega
            obtain ⟨ad', e7, hz0, hz1, hz2⟩ := at_T42 (Kd.C_below C7.out BL.out) mi p2 q3
            cases e7
            have hm1 : m0 < es.length := by have := HLJ.out; omega
            have hrd : rd_T42 (es.map toS) mi = toS (es[m0]'hm1) := by rw [hmi]; simp [rd_T42, List.getD, hm1]
            obtain ⟨z, hz⟩ : ∃ z : S42, z = toS (es[m0]'hm1) := ⟨_, rfl⟩
            rw [hrd, ← hz] at hz0 hz1 hz2
            have hm2 : m0 + 1 < es.length := by have := HLJ.out; omega
            have hxj : x = toS (es[m0 + 1]'hm2) := by obtain ⟨h, e⟩ := HEN.out; rw [HX.out, e]; congr 1; simp only [hm0]
            obtain ⟨hcz, hzx⟩ := next_facts GD.out hm2 hxj hz
            have Z0 := Aside0.mk hz0
            have Z1 := Aside0.mk hz1
            have Z2 := Aside0.mk hz2
            have p2 := eq_true p2
            rw [List.length_map] at q3
            clear hz hxj hm2 hmi hm0 hm1 hrd hz0 hz1 hz2
            rcases Bool.eq_false_or_eq_true (z.f0.f0 == x.f0.f0 && z.f0.f1 == x.f0.f1) with hE | hE
            · have hcv2 := hzx hE
              clear hzx
              go_wp2
              have hq0 : w6.drew.cell? ⟨gx, 0, none⟩ = _ := (blk_cell PD.out 0).trans rfl
              have hq1 : w6.drew.cell? ⟨gx, 1, none⟩ = _ := (blk_cell PD.out 1).trans rfl
              have hq2 : w6.drew.cell? ⟨gx, 2, none⟩ = _ := (blk_cell PD.out 2).trans rfl
              have hb6 := below_drew1 HB6.out
              have hq3 := pw_cell_below hb6 Z0.out
              have hq4 := pw_cell_below hb6 Z1.out
              have hq5 := pw_cell_below hb6 Z2.out
              refine start_ (n := 46) (S := fun w' => w'.cell? ⟨gx, 0, none⟩ = some (.int .u32 x.f0.f0) ∧ w'.cell? ⟨gx, 1, none⟩ = some (.int .i64 x.f0.f1) ∧ w'.cell? ⟨gx, 2, none⟩ = some (.int .i64 x.f1) ∧ w'.cell? (ad.add (mi.toNat * 3)) = some (.int .u32 z.f0.f0) ∧ w'.cell? ⟨(ad.add (mi.toNat * 3)).block, (ad.add (mi.toNat * 3)).off + 1, none⟩ = some (.int .i64 z.f0.f1) ∧ w'.cell? ⟨(ad.add (mi.toNat * 3)).block, (ad.add (mi.toNat * 3)).off + 2, none⟩ = some (.int .i64 z.f1)) (ds := []) #[false, false, false, false, false, false, false, false, false, false, false, false, false, false, false, false, false, false, false, false, false, false, false, false, false, false, false, false, false, false, false, false, false, false, false, false, false, false, false, false, false, false, false, false, false, false] (by kernel_rfl) rfl rfl ⟨hq0, hq1, hq2, hq3, hq4, hq5⟩ (fun hHeld => ?_)
              refine with_tabW widest_.tab15 widest_.bits15 (fun HT_ HW_ => ?_)
              clear hq0 hq1 hq2 hq3 hq4 hq5 hb6
              generalize w6.drew = wd at BD PD hHeld ⊢
              refine pure_ (i := 0) (N := some 48) (v := ?_) (a' := ?_) #[true, false, false, false, false, false, false, false, false, false, false, false, false, false, false, false, false, false, false, false, false, false, false, false, false, false, false, false, false, false, false, false, false, false, false, false, false, false, false, false, false, false, false, false, false, false] rfl rfl (any_of HT_.out (by kernel_rfl)) (fun _ _ _ h => h) (Or.inl ⟨by rfl, ?_⟩) ?_ ?_
              rotate_left
              · intro w'
                go_simp
                with_reducible rfl
              rotate_left
              · simp only [Act.put, List.setIfInBounds_toArray, List.set_cons_zero, List.set_cons_succ, i64_w, i32_w]
                rfl
              refine pure_ (i := 1) (N := some 49) (v := ?_) (a' := ?_) #[true, true, false, false, false, false, false, false, false, false, false, false, false, false, false, false, false, false, false, false, false, false, false, false, false, false, false, false, false, false, false, false, false, false, false, false, false, false, false, false, false, false, false, false, false, false] rfl rfl (any_of HT_.out (by kernel_rfl)) (fun _ _ _ h => h) (Or.inl ⟨by rfl, ?_⟩) ?_ ?_
              rotate_left
              · intro w'
                go_simp
                with_reducible rfl
              rotate_left
              · simp only [Act.put, List.setIfInBounds_toArray, List.set_cons_zero, List.set_cons_succ, i64_w, i32_w]
                rfl
              refine pure_ (i := 2) (N := some 50) (v := ?_) (a' := ?_) #[true, true, true, false, false, false, false, false, false, false, false, false, false, false, false, false, false, false, false, false, false, false, false, false, false, false, false, false, false, false, false, false, false, false, false, false, false, false, false, false, false, false, false, false, false, false] rfl rfl (any_of HT_.out (by kernel_rfl)) (fun _ _ _ h => h) (Or.inl ⟨by rfl, ?_⟩) ?_ ?_
              rotate_left
              · intro w'
                go_simp
                with_reducible rfl
              rotate_left
              · simp only [Act.put, List.setIfInBounds_toArray, List.set_cons_zero, List.set_cons_succ, i64_w, i32_w]
                rfl
              refine pure_ (i := 3) (N := some 51) (v := ?_) (a' := ?_) #[true, true, true, true, false, false, false, false, false, false, false, false, false, false, false, false, false, false, false, false, false, false, false, false, false, false, false, false, false, false, false, false, false, false, false, false, false, false, false, false, false, false, false, false, false, false] rfl rfl (any_of HT_.out (by kernel_rfl)) (fun _ _ _ h => h) (Or.inl ⟨by rfl, ?_⟩) ?_ ?_
              rotate_left
              · intro w'
                go_simp
                with_reducible rfl
              rotate_left
              · simp only [Act.put, List.setIfInBounds_toArray, List.set_cons_zero, List.set_cons_succ, i64_w, i32_w]
                rfl
              refine pure_ (i := 4) (N := some 52) (v := ?_) (a' := ?_) #[true, true, true, true, true, false, false, false, false, false, false, false, false, false, false, false, false, false, false, false, false, false, false, false, false, false, false, false, false, false, false, false, false, false, false, false, false, false, false, false, false, false, false, false, false, false] rfl rfl (any_of HT_.out (by kernel_rfl)) (fun _ _ _ h => h) (Or.inl ⟨by rfl, ?_⟩) ?_ ?_
              rotate_left
              · intro w'
                go_simp
                with_reducible rfl
              rotate_left
              · simp only [Act.put, List.setIfInBounds_toArray, List.set_cons_zero, List.set_cons_succ, i64_w, i32_w]
                rfl
              refine pure_ (i := 5) (N := some 53) (v := ?_) (a' := ?_) #[true, true, true, true, true, true, false, false, false, false, false, false, false, false, false, false, false, false, false, false, false, false, false, false, false, false, false, false, false, false, false, false, false, false, false, false, false, false, false, false, false, false, false, false, false, false] rfl rfl (any_of HT_.out (by kernel_rfl)) (fun _ _ _ h => h) (Or.inl ⟨by rfl, ?_⟩) ?_ ?_
              rotate_left
              · intro w'
                go_simp
                with_reducible rfl
              rotate_left
              · simp only [Act.put, List.setIfInBounds_toArray, List.set_cons_zero, List.set_cons_succ, i64_w, i32_w]
                rfl
              refine pure_ (i := 6) (N := some 54) (v := ?_) (a' := ?_) #[true, true, true, true, true, true, true, false, false, false, false, false, false, false, false, false, false, false, false, false, false, false, false, false, false, false, false, false, false, false, false, false, false, false, false, false, false, false, false, false, false, false, false, false, false, false] rfl rfl (any_of HT_.out (by kernel_rfl)) (fun _ _ _ h => h) (Or.inl ⟨by rfl, ?_⟩) ?_ ?_
              rotate_left
              · intro w'
                go_simp
                with_reducible rfl
              rotate_left
              · simp only [Act.put, List.setIfInBounds_toArray, List.set_cons_zero, List.set_cons_succ, i64_w, i32_w]
                rfl
              refine pure_ (i := 7) (N := some 55) (v := ?_) (a' := ?_) #[true, true, true, true, true, true, true, true, false, false, false, false, false, false, false, false, false, false, false, false, false, false, false, false, false, false, false, false, false, false, false, false, false, false, false, false, false, false, false, false, false, false, false, false, false, false] rfl rfl (any_of HT_.out (by kernel_rfl)) (fun _ _ _ h => h) (Or.inl ⟨by rfl, ?_⟩) ?_ ?_
              rotate_left
              · intro w'
                go_simp
                with_reducible rfl
              rotate_left
              · simp only [Act.put, List.setIfInBounds_toArray, List.set_cons_zero, List.set_cons_succ, i64_w, i32_w]
                rfl
              refine pure_ (i := 8) (N := some 56) (v := ?_) (a' := ?_) #[true, true, true, true, true, true, true, true, true, false, false, false, false, false, false, false, false, false, false, false, false, false, false, false, false, false, false, false, false, false, false, false, false, false, false, false, false, false, false, false, false, false, false, false, false, false] rfl rfl (any_of HT_.out (by kernel_rfl)) (fun _ _ _ h => h) (Or.inl ⟨by rfl, ?_⟩) ?_ ?_
              rotate_left
              · intro w'
                go_simp
                with_reducible rfl
              rotate_left
              · simp only [Act.put, List.setIfInBounds_toArray, List.set_cons_zero, List.set_cons_succ, i64_w, i32_w]
                rfl
              refine pure_ (i := 10) (N := some 58) (v := ?_) (a' := ?_) #[true, true, true, true, true, true, true, true, true, false, true, false, false, false, false, false, false, false, false, false, false, false, false, false, false, false, false, false, false, false, false, false, false, false, false, false, false, false, false, false, false, false, false, false, false, false] rfl rfl (any_of HT_.out (by kernel_rfl)) (fun _ _ _ h => h) (Or.inl ⟨by rfl, ?_⟩) ?_ ?_
              rotate_left
              · intro w'
                go_simp
                with_reducible rfl
              rotate_left
              · simp only [Act.put, List.setIfInBounds_toArray, List.set_cons_zero, List.set_cons_succ, i64_w, i32_w]
                rfl
              refine pure_ (i := 11) (N := some 59) (v := ?_) (a' := ?_) #[true, true, true, true, true, true, true, true, true, false, true, true, false, false, false, false, false, false, false, false, false, false, false, false, false, false, false, false, false, false, false, false, false, false, false, false, false, false, false, false, false, false, false, false, false, false] rfl rfl (any_of HT_.out (by kernel_rfl)) (fun _ _ _ h => h) (Or.inl ⟨by rfl, ?_⟩) ?_ ?_
              rotate_left
              · intro w'
                go_simp
                with_reducible rfl
              rotate_left
              · simp only [Act.put, List.setIfInBounds_toArray, List.set_cons_zero, List.set_cons_succ, i64_w, i32_w]
                rfl
              refine take_ (i := 9) (N := some 57) (v := ?_) (a' := ?_) #[true, true, true, true, true, true, true, true, true, true, true, true, false, false, false, false, false, false, false, false, false, false, false, false, false, false, false, false, false, false, false, false, false, false, false, false, false, false, false, false, false, false, false, false, false, false] rfl rfl (take_ofW HT_.out HW_.out (by kernel_rfl)) (fun _ _ _ h => h) (Or.inl ⟨by rfl, ?_⟩) hHeld ?_ ?_
              rotate_left
              · rintro w' ⟨s0, s1, s2, s3, s4, s5⟩
                go_simp
                with_reducible rfl
              rotate_left
              · simp only [Act.put, List.setIfInBounds_toArray, List.set_cons_zero, List.set_cons_succ, i64_w, i32_w]
                rfl
              refine take_ (i := 12) (N := some 60) (v := ?_) (a' := ?_) #[true, true, true, true, true, true, true, true, true, true, true, true, true, false, false, false, false, false, false, false, false, false, false, false, false, false, false, false, false, false, false, false, false, false, false, false, false, false, false, false, false, false, false, false, false, false] rfl rfl (take_ofW HT_.out HW_.out (by kernel_rfl)) (fun _ _ _ h => h) (Or.inl ⟨by rfl, ?_⟩) hHeld ?_ ?_
              rotate_left
              · rintro w' ⟨s0, s1, s2, s3, s4, s5⟩
                go_simp
                with_reducible rfl
              rotate_left
              · simp only [Act.put, List.setIfInBounds_toArray, List.set_cons_zero, List.set_cons_succ, i64_w, i32_w]
                rfl
              refine pure_ (i := 13) (N := some 61) (v := ?_) (a' := ?_) #[true, true, true, true, true, true, true, true, true, true, true, true, true, true, false, false, false, false, false, false, false, false, false, false, false, false, false, false, false, false, false, false, false, false, false, false, false, false, false, false, false, false, false, false, false, false] rfl rfl (any_of HT_.out (by kernel_rfl)) (fun _ _ _ h => h) (Or.inl ⟨by rfl, ?_⟩) ?_ ?_
              rotate_left
              · intro w'
                go_simp
                with_reducible rfl
              rotate_left
              · simp only [Act.put, List.setIfInBounds_toArray, List.set_cons_zero, List.set_cons_succ, i64_w, i32_w]
                rfl
              refine pure_ (i := 14) (N := some 62) (v := ?_) (a' := ?_) #[true, true, true, true, true, true, true, true, true, true, true, true, true, true, true, false, false, false, false, false, false, false, false, false, false, false, false, false, false, false, false, false, false, false, false, false, false, false, false, false, false, false, false, false, false, false] rfl rfl (any_of HT_.out (by kernel_rfl)) (fun _ _ _ h => h) (Or.inl ⟨by rfl, ?_⟩) ?_ ?_
              rotate_left
              · intro w'
                go_simp
                with_reducible rfl
              rotate_left
              · simp only [Act.put, List.setIfInBounds_toArray, List.set_cons_zero, List.set_cons_succ, i64_w, i32_w]
                rfl
              refine pure_ (i := 15) (N := some 63) (v := ?_) (a' := ?_) #[true, true, true, true, true, true, true, true, true, true, true, true, true, true, true, true, false, false, false, false, false, false, false, false, false, false, false, false, false, false, false, false, false, false, false, false, false, false, false, false, false, false, false, false, false, false] rfl rfl (any_of HT_.out (by kernel_rfl)) (fun _ _ _ h => h) (Or.inl ⟨by rfl, ?_⟩) ?_ ?_
              rotate_left
              · intro w'
                go_simp
                with_reducible rfl
              rotate_left
              · simp only [Act.put, List.setIfInBounds_toArray, List.set_cons_zero, List.set_cons_succ, i64_w, i32_w]
                rfl
              refine pure_ (i := 16) (N := some 64) (v := ?_) (a' := ?_) #[true, true, true, true, true, true, true, true, true, true, true, true, true, true, true, true, true, false, false, false, false, false, false, false, false, false, false, false, false, false, false, false, false, false, false, false, false, false, false, false, false, false, false, false, false, false] rfl rfl (any_of HT_.out (by kernel_rfl)) (fun _ _ _ h => h) (Or.inl ⟨by rfl, ?_⟩) ?_ ?_
              rotate_left
              · intro w'
                go_simp
                with_reducible rfl
              rotate_left
              · simp only [Act.put, List.setIfInBounds_toArray, List.set_cons_zero, List.set_cons_succ, i64_w, i32_w]
                rfl
              refine pure_ (i := 17) (N := some 65) (v := ?_) (a' := ?_) #[true, true, true, true, true, true, true, true, true, true, true, true, true, true, true, true, true, true, false, false, false, false, false, false, false, false, false, false, false, false, false, false, false, false, false, false, false, false, false, false, false, false, false, false, false, false] rfl rfl (any_of HT_.out (by kernel_rfl)) (fun _ _ _ h => h) (Or.inl ⟨by rfl, ?_⟩) ?_ ?_
              rotate_left
              · intro w'
                go_simp
                with_reducible rfl
              rotate_left
              · simp only [Act.put, List.setIfInBounds_toArray, List.set_cons_zero, List.set_cons_succ, i64_w, i32_w]
                rfl
              refine pure_ (i := 18) (N := some 66) (v := ?_) (a' := ?_) #[true, true, true, true, true, true, true, true, true, true, true, true, true, true, true, true, true, true, true, false, false, false, false, false, false, false, false, false, false, false, false, false, false, false, false, false, false, false, false, false, false, false, false, false, false, false] rfl rfl (any_of HT_.out (by kernel_rfl)) (fun _ _ _ h => h) (Or.inl ⟨by rfl, ?_⟩) ?_ ?_
              rotate_left
              · intro w'
                go_simp
                with_reducible rfl
              rotate_left
              · simp only [Act.put, List.setIfInBounds_toArray, List.set_cons_zero, List.set_cons_succ, i64_w, i32_w]
                rfl
              refine pure_ (i := 19) (N := some 67) (v := ?_) (a' := ?_) #[true, true, true, true, true, true, true, true, true, true, true, true, true, true, true, true, true, true, true, true, false, false, false, false, false, false, false, false, false, false, false, false, false, false, false, false, false, false, false, false, false, false, false, false, false, false] rfl rfl (any_of HT_.out (by kernel_rfl)) (fun _ _ _ h => h) (Or.inl ⟨by rfl, ?_⟩) ?_ ?_
              rotate_left
              · intro w'
                go_simp
                with_reducible rfl
              rotate_left
              · simp only [Act.put, List.setIfInBounds_toArray, List.set_cons_zero, List.set_cons_succ, i64_w, i32_w]
                rfl
              refine pure_ (i := 21) (N := some 69) (v := ?_) (a' := ?_) #[true, true, true, true, true, true, true, true, true, true, true, true, true, true, true, true, true, true, true, true, false, true, false, false, false, false, false, false, false, false, false, false, false, false, false, false, false, false, false, false, false, false, false, false, false, false] rfl rfl (any_of HT_.out (by kernel_rfl)) (fun _ _ _ h => h) (Or.inl ⟨by rfl, ?_⟩) ?_ ?_
              rotate_left
              · intro w'
                go_simp
                with_reducible rfl
              rotate_left
              · simp only [Act.put, List.setIfInBounds_toArray, List.set_cons_zero, List.set_cons_succ, i64_w, i32_w]
                rfl
              refine take_ (i := 20) (N := some 68) (v := ?_) (a' := ?_) #[true, true, true, true, true, true, true, true, true, true, true, true, true, true, true, true, true, true, true, true, true, true, false, false, false, false, false, false, false, false, false, false, false, false, false, false, false, false, false, false, false, false, false, false, false, false] rfl rfl (take_ofW HT_.out HW_.out (by kernel_rfl)) (fun _ _ _ h => h) (Or.inl ⟨by rfl, ?_⟩) hHeld ?_ ?_
              rotate_left
              · rintro w' ⟨s0, s1, s2, s3, s4, s5⟩
                go_simp
                with_reducible rfl
              rotate_left
              · simp only [Act.put, List.setIfInBounds_toArray, List.set_cons_zero, List.set_cons_succ, i64_w, i32_w]
                rfl
              refine take_ (i := 22) (N := some 70) (v := ?_) (a' := ?_) #[true, true, true, true, true, true, true, true, true, true, true, true, true, true, true, true, true, true, true, true, true, true, true, false, false, false, false, false, false, false, false, false, false, false, false, false, false, false, false, false, false, false, false, false, false, false] rfl rfl (take_ofW HT_.out HW_.out (by kernel_rfl)) (fun _ _ _ h => h) (Or.inl ⟨by rfl, ?_⟩) hHeld ?_ ?_
              rotate_left
              · rintro w' ⟨s0, s1, s2, s3, s4, s5⟩
                go_simp
                with_reducible rfl
              rotate_left
              · simp only [Act.put, List.setIfInBounds_toArray, List.set_cons_zero, List.set_cons_succ, i64_w, i32_w]
                rfl
              refine pure_ (i := 23) (N := some 71) (v := ?_) (a' := ?_) #[true, true, true, true, true, true, true, true, true, true, true, true, true, true, true, true, true, true, true, true, true, true, true, true, false, false, false, false, false, false, false, false, false, false, false, false, false, false, false, false, false, false, false, false, false, false] rfl rfl (any_of HT_.out (by kernel_rfl)) (fun _ _ _ h => h) (Or.inl ⟨by rfl, ?_⟩) ?_ ?_
              rotate_left
              · intro w'
                go_simp
                with_reducible rfl
              rotate_left
              · simp only [Act.put, List.setIfInBounds_toArray, List.set_cons_zero, List.set_cons_succ, i64_w, i32_w]
                rfl
              refine pure_ (i := 24) (N := some 72) (v := ?_) (a' := ?_) #[true, true, true, true, true, true, true, true, true, true, true, true, true, true, true, true, true, true, true, true, true, true, true, true, true, false, false, false, false, false, false, false, false, false, false, false, false, false, false, false, false, false, false, false, false, false] rfl rfl (any_of HT_.out (by kernel_rfl)) (fun _ _ _ h => h) (Or.inl ⟨by rfl, ?_⟩) ?_ ?_
              rotate_left
              · intro w'
                go_simp
                with_reducible rfl
              rotate_left
              · simp only [Act.put, List.setIfInBounds_toArray, List.set_cons_zero, List.set_cons_succ, i64_w, i32_w]
                rfl
              refine pure_ (i := 25) (N := some 73) (v := ?_) (a' := ?_) #[true, true, true, true, true, true, true, true, true, true, true, true, true, true, true, true, true, true, true, true, true, true, true, true, true, true, false, false, false, false, false, false, false, false, false, false, false, false, false, false, false, false, false, false, false, false] rfl rfl (any_of HT_.out (by kernel_rfl)) (fun _ _ _ h => h) (Or.inl ⟨by rfl, ?_⟩) ?_ ?_
              rotate_left
              · intro w'
                go_simp
                with_reducible rfl
              rotate_left
              · simp only [Act.put, List.setIfInBounds_toArray, List.set_cons_zero, List.set_cons_succ, i64_w, i32_w]
                rfl
              refine pure_ (i := 26) (N := some 74) (v := ?_) (a' := ?_) #[true, true, true, true, true, true, true, true, true, true, true, true, true, true, true, true, true, true, true, true, true, true, true, true, true, true, true, false, false, false, false, false, false, false, false, false, false, false, false, false, false, false, false, false, false, false] rfl rfl (any_of HT_.out (by kernel_rfl)) (fun _ _ _ h => h) (Or.inl ⟨by rfl, ?_⟩) ?_ ?_
              rotate_left
              · intro w'
                go_simp
                with_reducible rfl
              rotate_left
              · simp only [Act.put, List.setIfInBounds_toArray, List.set_cons_zero, List.set_cons_succ, i64_w, i32_w]
                rfl
              refine pure_ (i := 27) (N := some 75) (v := ?_) (a' := ?_) #[true, true, true, true, true, true, true, true, true, true, true, true, true, true, true, true, true, true, true, true, true, true, true, true, true, true, true, true, false, false, false, false, false, false, false, false, false, false, false, false, false, false, false, false, false, false] rfl rfl (any_of HT_.out (by kernel_rfl)) (fun _ _ _ h => h) (Or.inl ⟨by rfl, ?_⟩) ?_ ?_
              rotate_left
              · intro w'
                go_simp
                with_reducible rfl
              rotate_left
              · simp only [Act.put, List.setIfInBounds_toArray, List.set_cons_zero, List.set_cons_succ, i64_w, i32_w]
                rfl
              refine pure_ (i := 28) (N := some 76) (v := ?_) (a' := ?_) #[true, true, true, true, true, true, true, true, true, true, true, true, true, true, true, true, true, true, true, true, true, true, true, true, true, true, true, true, true, false, false, false, false, false, false, false, false, false, false, false, false, false, false, false, false, false] rfl rfl (any_of HT_.out (by kernel_rfl)) (fun _ _ _ h => h) (Or.inl ⟨by rfl, ?_⟩) ?_ ?_
              rotate_left
              · intro w'
                go_simp
                with_reducible rfl
              rotate_left
              · simp only [Act.put, List.setIfInBounds_toArray, List.set_cons_zero, List.set_cons_succ, i64_w, i32_w]
                rfl
              refine pure_ (i := 29) (N := some 77) (v := ?_) (a' := ?_) #[true, true, true, true, true, true, true, true, true, true, true, true, true, true, true, true, true, true, true, true, true, true, true, true, true, true, true, true, true, true, false, false, false, false, false, false, false, false, false, false, false, false, false, false, false, false] rfl rfl (any_of HT_.out (by kernel_rfl)) (fun _ _ _ h => h) (Or.inl ⟨by rfl, ?_⟩) ?_ ?_
              rotate_left
              · intro w'
                go_simp
                with_reducible rfl
              rotate_left
              · simp only [Act.put, List.setIfInBounds_toArray, List.set_cons_zero, List.set_cons_succ, i64_w, i32_w]
                rfl
              refine pure_ (i := 31) (N := some 79) (v := ?_) (a' := ?_) #[true, true, true, true, true, true, true, true, true, true, true, true, true, true, true, true, true, true, true, true, true, true, true, true, true, true, true, true, true, true, false, true, false, false, false, false, false, false, false, false, false, false, false, false, false, false] rfl rfl (any_of HT_.out (by kernel_rfl)) (fun _ _ _ h => h) (Or.inl ⟨by rfl, ?_⟩) ?_ ?_
              rotate_left
              · intro w'
                go_simp
                with_reducible rfl
              rotate_left
              · simp only [Act.put, List.setIfInBounds_toArray, List.set_cons_zero, List.set_cons_succ, i64_w, i32_w]
                rfl
              refine take_ (i := 30) (N := some 78) (v := ?_) (a' := ?_) #[true, true, true, true, true, true, true, true, true, true, true, true, true, true, true, true, true, true, true, true, true, true, true, true, true, true, true, true, true, true, true, true, false, false, false, false, false, false, false, false, false, false, false, false, false, false] rfl rfl (take_ofW HT_.out HW_.out (by kernel_rfl)) (fun _ _ _ h => h) (Or.inl ⟨by rfl, ?_⟩) hHeld ?_ ?_
              rotate_left
              · rintro w' ⟨s0, s1, s2, s3, s4, s5⟩
                go_simp
                with_reducible rfl
              rotate_left
              · simp only [Act.put, List.setIfInBounds_toArray, List.set_cons_zero, List.set_cons_succ, i64_w, i32_w]
                rfl
              refine take_ (i := 32) (N := some 80) (v := ?_) (a' := ?_) #[true, true, true, true, true, true, true, true, true, true, true, true, true, true, true, true, true, true, true, true, true, true, true, true, true, true, true, true, true, true, true, true, true, false, false, false, false, false, false, false, false, false, false, false, false, false] rfl rfl (take_ofW HT_.out HW_.out (by kernel_rfl)) (fun _ _ _ h => h) (Or.inl ⟨by rfl, ?_⟩) hHeld ?_ ?_
              rotate_left
              · rintro w' ⟨s0, s1, s2, s3, s4, s5⟩
                go_simp
                with_reducible rfl
              rotate_left
              · simp only [Act.put, List.setIfInBounds_toArray, List.set_cons_zero, List.set_cons_succ, i64_w, i32_w]
                rfl
              refine pure_ (i := 33) (N := some 81) (v := ?_) (a' := ?_) #[true, true, true, true, true, true, true, true, true, true, true, true, true, true, true, true, true, true, true, true, true, true, true, true, true, true, true, true, true, true, true, true, true, true, false, false, false, false, false, false, false, false, false, false, false, false] rfl rfl (any_of HT_.out (by kernel_rfl)) (fun _ _ _ h => h) (Or.inl ⟨by rfl, ?_⟩) ?_ ?_
              rotate_left
              · intro w'
                go_simp
                with_reducible rfl
              rotate_left
              · simp only [Act.put, List.setIfInBounds_toArray, List.set_cons_zero, List.set_cons_succ, i64_w, i32_w]
                rfl
              refine pure_ (i := 34) (N := some 82) (v := ?_) (a' := ?_) #[true, true, true, true, true, true, true, true, true, true, true, true, true, true, true, true, true, true, true, true, true, true, true, true, true, true, true, true, true, true, true, true, true, true, true, false, false, false, false, false, false, false, false, false, false, false] rfl rfl (any_of HT_.out (by kernel_rfl)) (fun _ _ _ h => h) (Or.inl ⟨by rfl, ?_⟩) ?_ ?_
              rotate_left
              · intro w'
                go_simp
                with_reducible rfl
              rotate_left
              · simp only [Act.put, List.setIfInBounds_toArray, List.set_cons_zero, List.set_cons_succ, i64_w, i32_w]
                rfl
              refine pure_ (i := 35) (N := some 83) (v := ?_) (a' := ?_) #[true, true, true, true, true, true, true, true, true, true, true, true, true, true, true, true, true, true, true, true, true, true, true, true, true, true, true, true, true, true, true, true, true, true, true, true, false, false, false, false, false, false, false, false, false, false] rfl rfl (any_of HT_.out (by kernel_rfl)) (fun _ _ _ h => h) (Or.inl ⟨by rfl, ?_⟩) ?_ ?_
              rotate_left
              · intro w'
                go_simp
                with_reducible rfl
              rotate_left
              · simp only [Act.put, List.setIfInBounds_toArray, List.set_cons_zero, List.set_cons_succ, i64_w, i32_w]
                rfl
              refine pure_ (i := 36) (N := some 84) (v := ?_) (a' := ?_) #[true, true, true, true, true, true, true, true, true, true, true, true, true, true, true, true, true, true, true, true, true, true, true, true, true, true, true, true, true, true, true, true, true, true, true, true, true, false, false, false, false, false, false, false, false, false] rfl rfl (any_of HT_.out (by kernel_rfl)) (fun _ _ _ h => h) (Or.inl ⟨by rfl, ?_⟩) ?_ ?_
              rotate_left
              · intro w'
                go_simp
                with_reducible rfl
              rotate_left
              · simp only [Act.put, List.setIfInBounds_toArray, List.set_cons_zero, List.set_cons_succ, i64_w, i32_w]
                rfl
              refine pure_ (i := 37) (N := some 85) (v := ?_) (a' := ?_) #[true, true, true, true, true, true, true, true, true, true, true, true, true, true, true, true, true, true, true, true, true, true, true, true, true, true, true, true, true, true, true, true, true, true, true, true, true, true, false, false, false, false, false, false, false, false] rfl rfl (any_of HT_.out (by kernel_rfl)) (fun _ _ _ h => h) (Or.inl ⟨by rfl, ?_⟩) ?_ ?_
              rotate_left
              · intro w'
                go_simp
                with_reducible rfl
              rotate_left
              · simp only [Act.put, List.setIfInBounds_toArray, List.set_cons_zero, List.set_cons_succ, i64_w, i32_w]
                rfl
              refine pure_ (i := 38) (N := some 86) (v := ?_) (a' := ?_) #[true, true, true, true, true, true, true, true, true, true, true, true, true, true, true, true, true, true, true, true, true, true, true, true, true, true, true, true, true, true, true, true, true, true, true, true, true, true, true, false, false, false, false, false, false, false] rfl rfl (any_of HT_.out (by kernel_rfl)) (fun _ _ _ h => h) (Or.inl ⟨by rfl, ?_⟩) ?_ ?_
              rotate_left
              · intro w'
                go_simp
                with_reducible rfl
              rotate_left
              · simp only [Act.put, List.setIfInBounds_toArray, List.set_cons_zero, List.set_cons_succ, i64_w, i32_w]
                rfl
              refine pure_ (i := 39) (N := some 87) (v := ?_) (a' := ?_) #[true, true, true, true, true, true, true, true, true, true, true, true, true, true, true, true, true, true, true, true, true, true, true, true, true, true, true, true, true, true, true, true, true, true, true, true, true, true, true, true, false, false, false, false, false, false] rfl rfl (any_of HT_.out (by kernel_rfl)) (fun _ _ _ h => h) (Or.inl ⟨by rfl, ?_⟩) ?_ ?_
              rotate_left
              · intro w'
                go_simp
                with_reducible rfl
              rotate_left
              · simp only [Act.put, List.setIfInBounds_toArray, List.set_cons_zero, List.set_cons_succ, i64_w, i32_w]
                rfl
              refine pure_ (i := 42) (N := some 90) (v := ?_) (a' := ?_) #[true, true, true, true, true, true, true, true, true, true, true, true, true, true, true, true, true, true, true, true, true, true, true, true, true, true, true, true, true, true, true, true, true, true, true, true, true, true, true, true, false, false, true, false, false, false] rfl rfl (any_of HT_.out (by kernel_rfl)) (fun _ _ _ h => h) (Or.inl ⟨by rfl, ?_⟩) ?_ ?_
              rotate_left
              · intro w'
                go_simp
                with_reducible rfl
              rotate_left
              · simp only [Act.put, List.setIfInBounds_toArray, List.set_cons_zero, List.set_cons_succ, i64_w, i32_w]
                rfl
              refine pure_ (i := 43) (N := some 91) (v := ?_) (a' := ?_) #[true, true, true, true, true, true, true, true, true, true, true, true, true, true, true, true, true, true, true, true, true, true, true, true, true, true, true, true, true, true, true, true, true, true, true, true, true, true, true, true, false, false, true, true, false, false] rfl rfl (any_of HT_.out (by kernel_rfl)) (fun _ _ _ h => h) (Or.inl ⟨by rfl, ?_⟩) ?_ ?_
              rotate_left
              · intro w'
                go_simp
                with_reducible rfl
              rotate_left
              · simp only [Act.put, List.setIfInBounds_toArray, List.set_cons_zero, List.set_cons_succ, i64_w, i32_w]
                rfl
              refine take_ (i := 40) (N := some 88) (v := ?_) (a' := ?_) #[true, true, true, true, true, true, true, true, true, true, true, true, true, true, true, true, true, true, true, true, true, true, true, true, true, true, true, true, true, true, true, true, true, true, true, true, true, true, true, true, true, false, true, true, false, false] rfl rfl (take_ofW HT_.out HW_.out (by kernel_rfl)) (fun _ _ _ h => h) (Or.inl ⟨by rfl, ?_⟩) hHeld ?_ ?_
              rotate_left
              · rintro w' ⟨s0, s1, s2, s3, s4, s5⟩
                go_simp
                with_reducible rfl
              rotate_left
              · simp only [Act.put, List.setIfInBounds_toArray, List.set_cons_zero, List.set_cons_succ, i64_w, i32_w]
                rfl
              refine pure_ (i := 41) (N := some 89) (v := ?_) (a' := ?_) #[true, true, true, true, true, true, true, true, true, true, true, true, true, true, true, true, true, true, true, true, true, true, true, true, true, true, true, true, true, true, true, true, true, true, true, true, true, true, true, true, true, true, true, true, false, false] rfl rfl (any_of HT_.out (by kernel_rfl)) (fun _ _ _ h => h) (Or.inl ⟨by rfl, ?_⟩) ?_ ?_
              rotate_left
              · intro w'
                go_simp
                with_reducible rfl
              rotate_left
              · simp only [Act.put, List.setIfInBounds_toArray, List.set_cons_zero, List.set_cons_succ, i64_w, i32_w]
                rfl
              refine pure_ (i := 44) (N := some 92) (v := ?_) (a' := ?_) #[true, true, true, true, true, true, true, true, true, true, true, true, true, true, true, true, true, true, true, true, true, true, true, true, true, true, true, true, true, true, true, true, true, true, true, true, true, true, true, true, true, true, true, true, true, false] rfl rfl (any_of HT_.out (by kernel_rfl)) (fun _ _ _ h => h) (Or.inl ⟨by rfl, ?_⟩) ?_ ?_
              rotate_left
              · intro w'
                go_simp
                with_reducible rfl
              rotate_left
              · simp only [Act.put, List.setIfInBounds_toArray, List.set_cons_zero, List.set_cons_succ, i64_w, i32_w]
                rfl
              refine pure_ (i := 45) (N := some 93) (v := ?_) (a' := ?_) #[true, true, true, true, true, true, true, true, true, true, true, true, true, true, true, true, true, true, true, true, true, true, true, true, true, true, true, true, true, true, true, true, true, true, true, true, true, true, true, true, true, true, true, true, true, true] rfl rfl (any_of HT_.out (by kernel_rfl)) (fun _ _ _ h => h) (Or.inl ⟨by rfl, ?_⟩) ?_ ?_
              rotate_left
              · intro w'
                go_simp
                with_reducible rfl
              rotate_left
              · simp only [Act.put, List.setIfInBounds_toArray, List.set_cons_zero, List.set_cons_succ, i64_w, i32_w]
                rfl
              refine done_ (done_of HT_.out (by kernel_rfl)) ?_
              clear hHeld
              have PX := PD
              clear PD
              go_wp2
              go_loopg [12, 96] es.length (fun kq v12 v96 wl => ∃ (m : Nat) (mm : Int) (f : Bool), m + kq = es.length ∧ v96 = .int .i64 mm ∧ v12 = .bool f ∧ Aside0 (mm = (m : Int)) ∧ Aside0 (f = ((es.map toS).take m).any (eqS x)) ∧ Aside0 (Below wd.heap.size wd wl))
              case atStart => exact ⟨0, 0, false, by omega, rfl, rfl, ⟨rfl⟩, ⟨rfl⟩, ⟨Below.refl _ _⟩⟩
              case round =>
                obtain ⟨m, mm, f, hm, rfl, rfl, HMM, HF, BM⟩ := hrel
                have HM := Aside0.mk hm
                by_cases hlm : m < es.length
                · have hcm : decide (mm < (es.length : Int)) = true := decide_eq_true (by have := HMM.out; omega)
                  have HLM := Aside0.mk hlm
                  have p4 : 0 ≤ mm := by have := HMM.out; omega
                  have q4 : mm < ((es.map toS).length : Int) := by rw [List.length_map]; have := HMM.out; omega
                  obtain ⟨ad9, e9, hw0, hw1, hw2⟩ := at_T42 (Kd.C_below C8.out (below_step BD.out BM.out)) mm p4 q4
                  subst e9
                  have hlm' : m < (es.map toS).length := by rw [List.length_map]; exact hlm
                  have hrd : rd_T42 (es.map toS) mm = (es.map toS)[m] := by rw [HMM.out]; simp [rd_T42, List.getD, hlm]
                  have TKM := Aside0.mk (take_any (es.map toS) (eqS x) hlm')
                  rw [hrd] at hw0 hw1 hw2
                  generalize (es.map toS)[m] = y at hw0 hw1 hw2 TKM
                  have PXM := Aside0.mk (blk_below PX.out BM.out)
                  rw [List.length_map] at q4
                  clear hm hlm hrd hlm'
                  cases f with
                  | true =>
                    go_wp2_with (first
                      | ((with_reducible refine gate_dst (N := 14) rfl ?_); refine box_event ?hg (N := 14) ?hd (cs := #[.int .u32 0, .int .i64 0, .int .i64 0]) (t := 42) ?hr ?_; (case hd => rfl); (case hg => rfl); (case hr => first | (go_simp; done) | (go_simp; rfl)); intro gy hgy w13 hbox hb; have BO := Aside0.mk hbox; have HB5 := Aside0.mk hb; have HGgy := Aside0.mk hgy; have PX13 := Aside0.mk (blk_below PXM.out hb); clear hgy hbox hb)
                      | ((with_reducible refine gate_ (.store 42 (.tmp 14) (.tmp 99)) rfl ?_); refine Hand.wpList_store_blk rfl rfl 42 (.tmp 14) (.tmp 99) rfl [.int .u32 y.f0.f0, .int .i64 y.f0.f1, .int .i64 y.f1] #[.int .u32 y.f0.f0, .int .i64 y.f0.f1, .int .i64 y.f1] rfl rfl BO.out rfl size42 (Nat.le_refl 3) (fun u hu => by simp at hu; rcases hu with rfl | rfl | rfl <;> rfl) rfl (fun w14 hp => ?_); have PY := Aside0.mk hp.box; have HB7 := Aside0.mk (hp.bl _ HB5.out (Nat.le_of_eq HGgy.out.symm)); have HM6 := Aside0.mk (below_step BM.out HB7.out); have PX14 := Aside0.mk (hp.keep PX13.out (by have h1 := blk_lt PXM.out; have h2 := HGgy.out; omega)); have y0 : w14.cell? ⟨gy, 0, none⟩ = some (.int .u32 y.f0.f0) := (blk_cell PY.out 0).trans rfl; have y1 : w14.cell? ⟨gy, 1, none⟩ = some (.int .i64 y.f0.f1) := (blk_cell PY.out 1).trans rfl; have y2 : w14.cell? ⟨gy, 2, none⟩ = some (.int .i64 y.f1) := (blk_cell PY.out 2).trans rfl; have x0 : w14.cell? ⟨gx, 0, none⟩ = some (.int .u32 x.f0.f0) := (blk_cell PX14.out 0).trans rfl; have x1 : w14.cell? ⟨gx, 1, none⟩ = some (.int .i64 x.f0.f1) := (blk_cell PX14.out 1).trans rfl; have x2 : w14.cell? ⟨gx, 2, none⟩ = some (.int .i64 x.f1) := (blk_cell PX14.out 2).trans rfl; clear hw0 hw1 hw2; clear hp))
                    go_roundg (es.length - (m + 1))
                    case measure => have := HM.out; have := HLM.out; omega
                    case rel => exact ⟨m + 1, mm + 1, true, by have := HLM.out; omega, by rw [wrap64_id _ (by have := HMM.out; omega) (by have := HMM.out; have := HLM.out; have := HES.out; omega)], rfl, ⟨by have := HMM.out; omega⟩, ⟨by rw [TKM.out, ← HF.out]; rfl⟩, HM6⟩
                  | false =>
                    go_wp2_with (first
                      | ((with_reducible refine gate_dst (N := 14) rfl ?_); refine box_event ?hg (N := 14) ?hd (cs := #[.int .u32 0, .int .i64 0, .int .i64 0]) (t := 42) ?hr ?_; (case hd => rfl); (case hg => rfl); (case hr => first | (go_simp; done) | (go_simp; rfl)); intro gy hgy w13 hbox hb; have BO := Aside0.mk hbox; have HB5 := Aside0.mk hb; have HGgy := Aside0.mk hgy; have PX13 := Aside0.mk (blk_below PXM.out hb); clear hgy hbox hb)
                      | ((with_reducible refine gate_ (.store 42 (.tmp 14) (.tmp 99)) rfl ?_); refine Hand.wpList_store_blk rfl rfl 42 (.tmp 14) (.tmp 99) rfl [.int .u32 y.f0.f0, .int .i64 y.f0.f1, .int .i64 y.f1] #[.int .u32 y.f0.f0, .int .i64 y.f0.f1, .int .i64 y.f1] rfl rfl BO.out rfl size42 (Nat.le_refl 3) (fun u hu => by simp at hu; rcases hu with rfl | rfl | rfl <;> rfl) rfl (fun w14 hp => ?_); have PY := Aside0.mk hp.box; have HB7 := Aside0.mk (hp.bl _ HB5.out (Nat.le_of_eq HGgy.out.symm)); have HM6 := Aside0.mk (below_step BM.out HB7.out); have PX14 := Aside0.mk (hp.keep PX13.out (by have h1 := blk_lt PXM.out; have h2 := HGgy.out; omega)); have y0 : w14.cell? ⟨gy, 0, none⟩ = some (.int .u32 y.f0.f0) := (blk_cell PY.out 0).trans rfl; have y1 : w14.cell? ⟨gy, 1, none⟩ = some (.int .i64 y.f0.f1) := (blk_cell PY.out 1).trans rfl; have y2 : w14.cell? ⟨gy, 2, none⟩ = some (.int .i64 y.f1) := (blk_cell PY.out 2).trans rfl; have x0 : w14.cell? ⟨gx, 0, none⟩ = some (.int .u32 x.f0.f0) := (blk_cell PX14.out 0).trans rfl; have x1 : w14.cell? ⟨gx, 1, none⟩ = some (.int .i64 x.f0.f1) := (blk_cell PX14.out 1).trans rfl; have x2 : w14.cell? ⟨gx, 2, none⟩ = some (.int .i64 x.f1) := (blk_cell PX14.out 2).trans rfl; clear hw0 hw1 hw2; clear hp))
                    go_roundg (es.length - (m + 1))
                    case measure => have := HM.out; have := HLM.out; omega
                    case rel => exact ⟨m + 1, mm + 1, eqS x y, by have := HLM.out; omega, by rw [wrap64_id _ (by have := HMM.out; omega) (by have := HMM.out; have := HLM.out; have := HES.out; omega)], rfl, ⟨by have := HMM.out; omega⟩, ⟨by rw [TKM.out, ← HF.out]; rfl⟩, HM6⟩
                · have hcm : decide (mm < (es.length : Int)) = false := decide_eq_false (by have := HMM.out; omega)
                  obtain rfl : m = es.length := by omega
                  have hft : f = true := by rw [HF.out, List.take_of_length_le (by rw [List.length_map]; exact Nat.le_refl _)]; exact any_eqS MEM.out
                  subst hft
                  clear hm hlm
                  go_wp2
                  go_roundg (es.length - (j + 1))
                  case measure => have := HJ.out; have := HLJ.out; omega
                  case rel => exact ⟨j + 1, ji + 1, by have := HLJ.out; omega, by rw [wrap64_id _ (by have := HJI.out; omega) (by have := HJI.out; have := HLJ.out; have := HES.out; omega)], ⟨by have := HJI.out; omega⟩, ⟨below_step BD.out BM.out⟩⟩
            · clear hzx
              go_wp2
              have hq0 : w6.drew.cell? ⟨gx, 0, none⟩ = _ := (blk_cell PD.out 0).trans rfl
              have hq1 : w6.drew.cell? ⟨gx, 1, none⟩ = _ := (blk_cell PD.out 1).trans rfl
              have hq2 : w6.drew.cell? ⟨gx, 2, none⟩ = _ := (blk_cell PD.out 2).trans rfl
              have hb6 := below_drew1 HB6.out
              have hq3 := pw_cell_below hb6 Z0.out
              have hq4 := pw_cell_below hb6 Z1.out
              have hq5 := pw_cell_below hb6 Z2.out
              refine start_ (n := 46) (S := fun w' => w'.cell? ⟨gx, 0, none⟩ = some (.int .u32 x.f0.f0) ∧ w'.cell? ⟨gx, 1, none⟩ = some (.int .i64 x.f0.f1) ∧ w'.cell? ⟨gx, 2, none⟩ = some (.int .i64 x.f1) ∧ w'.cell? (ad.add (mi.toNat * 3)) = some (.int .u32 z.f0.f0) ∧ w'.cell? ⟨(ad.add (mi.toNat * 3)).block, (ad.add (mi.toNat * 3)).off + 1, none⟩ = some (.int .i64 z.f0.f1) ∧ w'.cell? ⟨(ad.add (mi.toNat * 3)).block, (ad.add (mi.toNat * 3)).off + 2, none⟩ = some (.int .i64 z.f1)) (ds := []) #[false, false, false, false, false, false, false, false, false, false, false, false, false, false, false, false, false, false, false, false, false, false, false, false, false, false, false, false, false, false, false, false, false, false, false, false, false, false, false, false, false, false, false, false, false, false] (by kernel_rfl) rfl rfl ⟨hq0, hq1, hq2, hq3, hq4, hq5⟩ (fun hHeld => ?_)
              refine with_tabW widest_.tab15 widest_.bits15 (fun HT_ HW_ => ?_)
              clear hq0 hq1 hq2 hq3 hq4 hq5 hb6
              generalize w6.drew = wd at BD PD hHeld ⊢
              refine pure_ (i := 0) (N := some 48) (v := ?_) (a' := ?_) #[true, false, false, false, false, false, false, false, false, false, false, false, false, false, false, false, false, false, false, false, false, false, false, false, false, false, false, false, false, false, false, false, false, false, false, false, false, false, false, false, false, false, false, false, false, false] rfl rfl (any_of HT_.out (by kernel_rfl)) (fun _ _ _ h => h) (Or.inl ⟨by rfl, ?_⟩) ?_ ?_
              rotate_left
              · intro w'
                go_simp
                with_reducible rfl
              rotate_left
              · simp only [Act.put, List.setIfInBounds_toArray, List.set_cons_zero, List.set_cons_succ, i64_w, i32_w]
                rfl
              refine pure_ (i := 1) (N := some 49) (v := ?_) (a' := ?_) #[true, true, false, false, false, false, false, false, false, false, false, false, false, false, false, false, false, false, false, false, false, false, false, false, false, false, false, false, false, false, false, false, false, false, false, false, false, false, false, false, false, false, false, false, false, false] rfl rfl (any_of HT_.out (by kernel_rfl)) (fun _ _ _ h => h) (Or.inl ⟨by rfl, ?_⟩) ?_ ?_
              rotate_left
              · intro w'
                go_simp
                with_reducible rfl
              rotate_left
              · simp only [Act.put, List.setIfInBounds_toArray, List.set_cons_zero, List.set_cons_succ, i64_w, i32_w]
                rfl
              refine pure_ (i := 2) (N := some 50) (v := ?_) (a' := ?_) #[true, true, true, false, false, false, false, false, false, false, false, false, false, false, false, false, false, false, false, false, false, false, false, false, false, false, false, false, false, false, false, false, false, false, false, false, false, false, false, false, false, false, false, false, false, false] rfl rfl (any_of HT_.out (by kernel_rfl)) (fun _ _ _ h => h) (Or.inl ⟨by rfl, ?_⟩) ?_ ?_
              rotate_left
              · intro w'
                go_simp
                with_reducible rfl
              rotate_left
              · simp only [Act.put, List.setIfInBounds_toArray, List.set_cons_zero, List.set_cons_succ, i64_w, i32_w]
                rfl
              refine pure_ (i := 3) (N := some 51) (v := ?_) (a' := ?_) #[true, true, true, true, false, false, false, false, false, false, false, false, false, false, false, false, false, false, false, false, false, false, false, false, false, false, false, false, false, false, false, false, false, false, false, false, false, false, false, false, false, false, false, false, false, false] rfl rfl (any_of HT_.out (by kernel_rfl)) (fun _ _ _ h => h) (Or.inl ⟨by rfl, ?_⟩) ?_ ?_
              rotate_left
              · intro w'
                go_simp
                with_reducible rfl
              rotate_left
              · simp only [Act.put, List.setIfInBounds_toArray, List.set_cons_zero, List.set_cons_succ, i64_w, i32_w]
                rfl
              refine pure_ (i := 4) (N := some 52) (v := ?_) (a' := ?_) #[true, true, true, true, true, false, false, false, false, false, false, false, false, false, false, false, false, false, false, false, false, false, false, false, false, false, false, false, false, false, false, false, false, false, false, false, false, false, false, false, false, false, false, false, false, false] rfl rfl (any_of HT_.out (by kernel_rfl)) (fun _ _ _ h => h) (Or.inl ⟨by rfl, ?_⟩) ?_ ?_
              rotate_left
              · intro w'
                go_simp
                with_reducible rfl
              rotate_left
              · simp only [Act.put, List.setIfInBounds_toArray, List.set_cons_zero, List.set_cons_succ, i64_w, i32_w]
                rfl
              refine pure_ (i := 5) (N := some 53) (v := ?_) (a' := ?_) #[true, true, true, true, true, true, false, false, false, false, false, false, false, false, false, false, false, false, false, false, false, false, false, false, false, false, false, false, false, false, false, false, false, false, false, false, false, false, false, false, false, false, false, false, false, false] rfl rfl (any_of HT_.out (by kernel_rfl)) (fun _ _ _ h => h) (Or.inl ⟨by rfl, ?_⟩) ?_ ?_
              rotate_left
              · intro w'
                go_simp
                with_reducible rfl
              rotate_left
              · simp only [Act.put, List.setIfInBounds_toArray, List.set_cons_zero, List.set_cons_succ, i64_w, i32_w]
                rfl
              refine pure_ (i := 6) (N := some 54) (v := ?_) (a' := ?_) #[true, true, true, true, true, true, true, false, false, false, false, false, false, false, false, false, false, false, false, false, false, false, false, false, false, false, false, false, false, false, false, false, false, false, false, false, false, false, false, false, false, false, false, false, false, false] rfl rfl (any_of HT_.out (by kernel_rfl)) (fun _ _ _ h => h) (Or.inl ⟨by rfl, ?_⟩) ?_ ?_
              rotate_left
              · intro w'
                go_simp
                with_reducible rfl
              rotate_left
              · simp only [Act.put, List.setIfInBounds_toArray, List.set_cons_zero, List.set_cons_succ, i64_w, i32_w]
                rfl
              refine pure_ (i := 7) (N := some 55) (v := ?_) (a' := ?_) #[true, true, true, true, true, true, true, true, false, false, false, false, false, false, false, false, false, false, false, false, false, false, false, false, false, false, false, false, false, false, false, false, false, false, false, false, false, false, false, false, false, false, false, false, false, false] rfl rfl (any_of HT_.out (by kernel_rfl)) (fun _ _ _ h => h) (Or.inl ⟨by rfl, ?_⟩) ?_ ?_
              rotate_left
              · intro w'
                go_simp
                with_reducible rfl
              rotate_left
              · simp only [Act.put, List.setIfInBounds_toArray, List.set_cons_zero, List.set_cons_succ, i64_w, i32_w]
                rfl
              refine pure_ (i := 8) (N := some 56) (v := ?_) (a' := ?_) #[true, true, true, true, true, true, true, true, true, false, false, false, false, false, false, false, false, false, false, false, false, false, false, false, false, false, false, false, false, false, false, false, false, false, false, false, false, false, false, false, false, false, false, false, false, false] rfl rfl (any_of HT_.out (by kernel_rfl)) (fun _ _ _ h => h) (Or.inl ⟨by rfl, ?_⟩) ?_ ?_
              rotate_left
              · intro w'
                go_simp
                with_reducible rfl
              rotate_left
              · simp only [Act.put, List.setIfInBounds_toArray, List.set_cons_zero, List.set_cons_succ, i64_w, i32_w]
                rfl
              refine pure_ (i := 10) (N := some 58) (v := ?_) (a' := ?_) #[true, true, true, true, true, true, true, true, true, false, true, false, false, false, false, false, false, false, false, false, false, false, false, false, false, false, false, false, false, false, false, false, false, false, false, false, false, false, false, false, false, false, false, false, false, false] rfl rfl (any_of HT_.out (by kernel_rfl)) (fun _ _ _ h => h) (Or.inl ⟨by rfl, ?_⟩) ?_ ?_
              rotate_left
              · intro w'
                go_simp
                with_reducible rfl
              rotate_left
              · simp only [Act.put, List.setIfInBounds_toArray, List.set_cons_zero, List.set_cons_succ, i64_w, i32_w]
                rfl
              refine pure_ (i := 11) (N := some 59) (v := ?_) (a' := ?_) #[true, true, true, true, true, true, true, true, true, false, true, true, false, false, false, false, false, false, false, false, false, false, false, false, false, false, false, false, false, false, false, false, false, false, false, false, false, false, false, false, false, false, false, false, false, false] rfl rfl (any_of HT_.out (by kernel_rfl)) (fun _ _ _ h => h) (Or.inl ⟨by rfl, ?_⟩) ?_ ?_
              rotate_left
              · intro w'
                go_simp
                with_reducible rfl
              rotate_left
              · simp only [Act.put, List.setIfInBounds_toArray, List.set_cons_zero, List.set_cons_succ, i64_w, i32_w]
                rfl
              refine take_ (i := 9) (N := some 57) (v := ?_) (a' := ?_) #[true, true, true, true, true, true, true, true, true, true, true, true, false, false, false, false, false, false, false, false, false, false, false, false, false, false, false, false, false, false, false, false, false, false, false, false, false, false, false, false, false, false, false, false, false, false] rfl rfl (take_ofW HT_.out HW_.out (by kernel_rfl)) (fun _ _ _ h => h) (Or.inl ⟨by rfl, ?_⟩) hHeld ?_ ?_
              rotate_left
              · rintro w' ⟨s0, s1, s2, s3, s4, s5⟩
                go_simp
                with_reducible rfl
              rotate_left
              · simp only [Act.put, List.setIfInBounds_toArray, List.set_cons_zero, List.set_cons_succ, i64_w, i32_w]
                rfl
              refine take_ (i := 12) (N := some 60) (v := ?_) (a' := ?_) #[true, true, true, true, true, true, true, true, true, true, true, true, true, false, false, false, false, false, false, false, false, false, false, false, false, false, false, false, false, false, false, false, false, false, false, false, false, false, false, false, false, false, false, false, false, false] rfl rfl (take_ofW HT_.out HW_.out (by kernel_rfl)) (fun _ _ _ h => h) (Or.inl ⟨by rfl, ?_⟩) hHeld ?_ ?_
              rotate_left
              · rintro w' ⟨s0, s1, s2, s3, s4, s5⟩
                go_simp
                with_reducible rfl
              rotate_left
              · simp only [Act.put, List.setIfInBounds_toArray, List.set_cons_zero, List.set_cons_succ, i64_w, i32_w]
                rfl
              refine pure_ (i := 13) (N := some 61) (v := ?_) (a' := ?_) #[true, true, true, true, true, true, true, true, true, true, true, true, true, true, false, false, false, false, false, false, false, false, false, false, false, false, false, false, false, false, false, false, false, false, false, false, false, false, false, false, false, false, false, false, false, false] rfl rfl (any_of HT_.out (by kernel_rfl)) (fun _ _ _ h => h) (Or.inl ⟨by rfl, ?_⟩) ?_ ?_
              rotate_left
              · intro w'
                go_simp
                with_reducible rfl
              rotate_left
              · simp only [Act.put, List.setIfInBounds_toArray, List.set_cons_zero, List.set_cons_succ, i64_w, i32_w]
                rfl
              refine pure_ (i := 14) (N := some 62) (v := ?_) (a' := ?_) #[true, true, true, true, true, true, true, true, true, true, true, true, true, true, true, false, false, false, false, false, false, false, false, false, false, false, false, false, false, false, false, false, false, false, false, false, false, false, false, false, false, false, false, false, false, false] rfl rfl (any_of HT_.out (by kernel_rfl)) (fun _ _ _ h => h) (Or.inl ⟨by rfl, ?_⟩) ?_ ?_
              rotate_left
              · intro w'
                go_simp
                with_reducible rfl
              rotate_left
              · simp only [Act.put, List.setIfInBounds_toArray, List.set_cons_zero, List.set_cons_succ, i64_w, i32_w]
                rfl
              refine pure_ (i := 15) (N := some 63) (v := ?_) (a' := ?_) #[true, true, true, true, true, true, true, true, true, true, true, true, true, true, true, true, false, false, false, false, false, false, false, false, false, false, false, false, false, false, false, false, false, false, false, false, false, false, false, false, false, false, false, false, false, false] rfl rfl (any_of HT_.out (by kernel_rfl)) (fun _ _ _ h => h) (Or.inl ⟨by rfl, ?_⟩) ?_ ?_
              rotate_left
              · intro w'
                go_simp
                with_reducible rfl
              rotate_left
              · simp only [Act.put, List.setIfInBounds_toArray, List.set_cons_zero, List.set_cons_succ, i64_w, i32_w]
                rfl
              refine pure_ (i := 16) (N := some 64) (v := ?_) (a' := ?_) #[true, true, true, true, true, true, true, true, true, true, true, true, true, true, true, true, true, false, false, false, false, false, false, false, false, false, false, false, false, false, false, false, false, false, false, false, false, false, false, false, false, false, false, false, false, false] rfl rfl (any_of HT_.out (by kernel_rfl)) (fun _ _ _ h => h) (Or.inl ⟨by rfl, ?_⟩) ?_ ?_
              rotate_left
              · intro w'
                go_simp
                with_reducible rfl
              rotate_left
              · simp only [Act.put, List.setIfInBounds_toArray, List.set_cons_zero, List.set_cons_succ, i64_w, i32_w]
                rfl
              refine pure_ (i := 17) (N := some 65) (v := ?_) (a' := ?_) #[true, true, true, true, true, true, true, true, true, true, true, true, true, true, true, true, true, true, false, false, false, false, false, false, false, false, false, false, false, false, false, false, false, false, false, false, false, false, false, false, false, false, false, false, false, false] rfl rfl (any_of HT_.out (by kernel_rfl)) (fun _ _ _ h => h) (Or.inl ⟨by rfl, ?_⟩) ?_ ?_
              rotate_left
              · intro w'
                go_simp
                with_reducible rfl
              rotate_left
              · simp only [Act.put, List.setIfInBounds_toArray, List.set_cons_zero, List.set_cons_succ, i64_w, i32_w]
                rfl
              refine pure_ (i := 18) (N := some 66) (v := ?_) (a' := ?_) #[true, true, true, true, true, true, true, true, true, true, true, true, true, true, true, true, true, true, true, false, false, false, false, false, false, false, false, false, false, false, false, false, false, false, false, false, false, false, false, false, false, false, false, false, false, false] rfl rfl (any_of HT_.out (by kernel_rfl)) (fun _ _ _ h => h) (Or.inl ⟨by rfl, ?_⟩) ?_ ?_
              rotate_left
              · intro w'
                go_simp
                with_reducible rfl
              rotate_left
              · simp only [Act.put, List.setIfInBounds_toArray, List.set_cons_zero, List.set_cons_succ, i64_w, i32_w]
                rfl
              refine pure_ (i := 19) (N := some 67) (v := ?_) (a' := ?_) #[true, true, true, true, true, true, true, true, true, true, true, true, true, true, true, true, true, true, true, true, false, false, false, false, false, false, false, false, false, false, false, false, false, false, false, false, false, false, false, false, false, false, false, false, false, false] rfl rfl (any_of HT_.out (by kernel_rfl)) (fun _ _ _ h => h) (Or.inl ⟨by rfl, ?_⟩) ?_ ?_
              rotate_left
              · intro w'
                go_simp
                with_reducible rfl
              rotate_left
              · simp only [Act.put, List.setIfInBounds_toArray, List.set_cons_zero, List.set_cons_succ, i64_w, i32_w]
                rfl
              refine pure_ (i := 21) (N := some 69) (v := ?_) (a' := ?_) #[true, true, true, true, true, true, true, true, true, true, true, true, true, true, true, true, true, true, true, true, false, true, false, false, false, false, false, false, false, false, false, false, false, false, false, false, false, false, false, false, false, false, false, false, false, false] rfl rfl (any_of HT_.out (by kernel_rfl)) (fun _ _ _ h => h) (Or.inl ⟨by rfl, ?_⟩) ?_ ?_
              rotate_left
              · intro w'
                go_simp
                with_reducible rfl
              rotate_left
              · simp only [Act.put, List.setIfInBounds_toArray, List.set_cons_zero, List.set_cons_succ, i64_w, i32_w]
                rfl
              refine take_ (i := 20) (N := some 68) (v := ?_) (a' := ?_) #[true, true, true, true, true, true, true, true, true, true, true, true, true, true, true, true, true, true, true, true, true, true, false, false, false, false, false, false, false, false, false, false, false, false, false, false, false, false, false, false, false, false, false, false, false, false] rfl rfl (take_ofW HT_.out HW_.out (by kernel_rfl)) (fun _ _ _ h => h) (Or.inl ⟨by rfl, ?_⟩) hHeld ?_ ?_
              rotate_left
              · rintro w' ⟨s0, s1, s2, s3, s4, s5⟩
                go_simp
                with_reducible rfl
              rotate_left
              · simp only [Act.put, List.setIfInBounds_toArray, List.set_cons_zero, List.set_cons_succ, i64_w, i32_w]
                rfl
              refine take_ (i := 22) (N := some 70) (v := ?_) (a' := ?_) #[true, true, true, true, true, true, true, true, true, true, true, true, true, true, true, true, true, true, true, true, true, true, true, false, false, false, false, false, false, false, false, false, false, false, false, false, false, false, false, false, false, false, false, false, false, false] rfl rfl (take_ofW HT_.out HW_.out (by kernel_rfl)) (fun _ _ _ h => h) (Or.inl ⟨by rfl, ?_⟩) hHeld ?_ ?_
              rotate_left
              · rintro w' ⟨s0, s1, s2, s3, s4, s5⟩
                go_simp
                with_reducible rfl
              rotate_left
              · simp only [Act.put, List.setIfInBounds_toArray, List.set_cons_zero, List.set_cons_succ, i64_w, i32_w]
                rfl
              refine pure_ (i := 23) (N := some 71) (v := ?_) (a' := ?_) #[true, true, true, true, true, true, true, true, true, true, true, true, true, true, true, true, true, true, true, true, true, true, true, true, false, false, false, false, false, false, false, false, false, false, false, false, false, false, false, false, false, false, false, false, false, false] rfl rfl (any_of HT_.out (by kernel_rfl)) (fun _ _ _ h => h) (Or.inl ⟨by rfl, ?_⟩) ?_ ?_
              rotate_left
              · intro w'
                go_simp
                with_reducible rfl
              rotate_left
              · simp only [Act.put, List.setIfInBounds_toArray, List.set_cons_zero, List.set_cons_succ, i64_w, i32_w]
                rfl
              refine pure_ (i := 24) (N := some 72) (v := ?_) (a' := ?_) #[true, true, true, true, true, true, true, true, true, true, true, true, true, true, true, true, true, true, true, true, true, true, true, true, true, false, false, false, false, false, false, false, false, false, false, false, false, false, false, false, false, false, false, false, false, false] rfl rfl (any_of HT_.out (by kernel_rfl)) (fun _ _ _ h => h) (Or.inl ⟨by rfl, ?_⟩) ?_ ?_
              rotate_left
              · intro w'
                go_simp
                with_reducible rfl
              rotate_left
              · simp only [Act.put, List.setIfInBounds_toArray, List.set_cons_zero, List.set_cons_succ, i64_w, i32_w]
                rfl
              refine pure_ (i := 25) (N := some 73) (v := undef) (a' := ?_) #[true, true, true, true, true, true, true, true, true, true, true, true, true, true, true, true, true, true, true, true, true, true, true, true, true, true, false, false, false, false, false, false, false, false, false, false, false, false, false, false, false, false, false, false, false, false] rfl rfl (any_of HT_.out (by kernel_rfl)) (fun _ _ _ h => h) (Or.inr ⟨by rfl, rfl⟩) ?_ ?_
              rotate_left
              · simp only [Act.put, List.setIfInBounds_toArray, List.set_cons_zero, List.set_cons_succ, i64_w, i32_w]
                rfl
              refine pure_ (i := 26) (N := some 74) (v := undef) (a' := ?_) #[true, true, true, true, true, true, true, true, true, true, true, true, true, true, true, true, true, true, true, true, true, true, true, true, true, true, true, false, false, false, false, false, false, false, false, false, false, false, false, false, false, false, false, false, false, false] rfl rfl (any_of HT_.out (by kernel_rfl)) (fun _ _ _ h => h) (Or.inr ⟨by rfl, rfl⟩) ?_ ?_
              rotate_left
              · simp only [Act.put, List.setIfInBounds_toArray, List.set_cons_zero, List.set_cons_succ, i64_w, i32_w]
                rfl
              refine pure_ (i := 27) (N := some 75) (v := undef) (a' := ?_) #[true, true, true, true, true, true, true, true, true, true, true, true, true, true, true, true, true, true, true, true, true, true, true, true, true, true, true, true, false, false, false, false, false, false, false, false, false, false, false, false, false, false, false, false, false, false] rfl rfl (any_of HT_.out (by kernel_rfl)) (fun _ _ _ h => h) (Or.inr ⟨by rfl, rfl⟩) ?_ ?_
              rotate_left
              · simp only [Act.put, List.setIfInBounds_toArray, List.set_cons_zero, List.set_cons_succ, i64_w, i32_w]
                rfl
              refine pure_ (i := 28) (N := some 76) (v := undef) (a' := ?_) #[true, true, true, true, true, true, true, true, true, true, true, true, true, true, true, true, true, true, true, true, true, true, true, true, true, true, true, true, true, false, false, false, false, false, false, false, false, false, false, false, false, false, false, false, false, false] rfl rfl (any_of HT_.out (by kernel_rfl)) (fun _ _ _ h => h) (Or.inr ⟨by rfl, rfl⟩) ?_ ?_
              rotate_left
              · simp only [Act.put, List.setIfInBounds_toArray, List.set_cons_zero, List.set_cons_succ, i64_w, i32_w]
                rfl
              refine pure_ (i := 29) (N := some 77) (v := undef) (a' := ?_) #[true, true, true, true, true, true, true, true, true, true, true, true, true, true, true, true, true, true, true, true, true, true, true, true, true, true, true, true, true, true, false, false, false, false, false, false, false, false, false, false, false, false, false, false, false, false] rfl rfl (any_of HT_.out (by kernel_rfl)) (fun _ _ _ h => h) (Or.inr ⟨by rfl, rfl⟩) ?_ ?_
              rotate_left
              · simp only [Act.put, List.setIfInBounds_toArray, List.set_cons_zero, List.set_cons_succ, i64_w, i32_w]
                rfl
              refine pure_ (i := 30) (N := some 78) (v := undef) (a' := ?_) #[true, true, true, true, true, true, true, true, true, true, true, true, true, true, true, true, true, true, true, true, true, true, true, true, true, true, true, true, true, true, true, false, false, false, false, false, false, false, false, false, false, false, false, false, false, false] rfl rfl (any_of HT_.out (by kernel_rfl)) (fun _ _ _ h => h) (Or.inr ⟨by rfl, rfl⟩) ?_ ?_
              rotate_left
              · simp only [Act.put, List.setIfInBounds_toArray, List.set_cons_zero, List.set_cons_succ, i64_w, i32_w]
                rfl
              refine pure_ (i := 31) (N := some 79) (v := undef) (a' := ?_) #[true, true, true, true, true, true, true, true, true, true, true, true, true, true, true, true, true, true, true, true, true, true, true, true, true, true, true, true, true, true, true, true, false, false, false, false, false, false, false, false, false, false, false, false, false, false] rfl rfl (any_of HT_.out (by kernel_rfl)) (fun _ _ _ h => h) (Or.inr ⟨by rfl, rfl⟩) ?_ ?_
              rotate_left
              · simp only [Act.put, List.setIfInBounds_toArray, List.set_cons_zero, List.set_cons_succ, i64_w, i32_w]
                rfl
              refine pure_ (i := 32) (N := some 80) (v := undef) (a' := ?_) #[true, true, true, true, true, true, true, true, true, true, true, true, true, true, true, true, true, true, true, true, true, true, true, true, true, true, true, true, true, true, true, true, true, false, false, false, false, false, false, false, false, false, false, false, false, false] rfl rfl (any_of HT_.out (by kernel_rfl)) (fun _ _ _ h => h) (Or.inr ⟨by rfl, rfl⟩) ?_ ?_
              rotate_left
              · simp only [Act.put, List.setIfInBounds_toArray, List.set_cons_zero, List.set_cons_succ, i64_w, i32_w]
                rfl
              refine pure_ (i := 33) (N := some 81) (v := undef) (a' := ?_) #[true, true, true, true, true, true, true, true, true, true, true, true, true, true, true, true, true, true, true, true, true, true, true, true, true, true, true, true, true, true, true, true, true, true, false, false, false, false, false, false, false, false, false, false, false, false] rfl rfl (any_of HT_.out (by kernel_rfl)) (fun _ _ _ h => h) (Or.inr ⟨by rfl, rfl⟩) ?_ ?_
              rotate_left
              · simp only [Act.put, List.setIfInBounds_toArray, List.set_cons_zero, List.set_cons_succ, i64_w, i32_w]
                rfl
              refine pure_ (i := 34) (N := some 82) (v := ?_) (a' := ?_) #[true, true, true, true, true, true, true, true, true, true, true, true, true, true, true, true, true, true, true, true, true, true, true, true, true, true, true, true, true, true, true, true, true, true, true, false, false, false, false, false, false, false, false, false, false, false] rfl rfl (any_of HT_.out (by kernel_rfl)) (fun _ _ _ h => h) (Or.inl ⟨by rfl, ?_⟩) ?_ ?_
              rotate_left
              · intro w'
                go_simp
                with_reducible rfl
              rotate_left
              · simp only [Act.put, List.setIfInBounds_toArray, List.set_cons_zero, List.set_cons_succ, i64_w, i32_w]
                rfl
              refine pure_ (i := 35) (N := some 83) (v := ?_) (a' := ?_) #[true, true, true, true, true, true, true, true, true, true, true, true, true, true, true, true, true, true, true, true, true, true, true, true, true, true, true, true, true, true, true, true, true, true, true, true, false, false, false, false, false, false, false, false, false, false] rfl rfl (any_of HT_.out (by kernel_rfl)) (fun _ _ _ h => h) (Or.inl ⟨by rfl, ?_⟩) ?_ ?_
              rotate_left
              · intro w'
                go_simp
                with_reducible rfl
              rotate_left
              · simp only [Act.put, List.setIfInBounds_toArray, List.set_cons_zero, List.set_cons_succ, i64_w, i32_w]
                rfl
              refine pure_ (i := 36) (N := some 84) (v := ?_) (a' := ?_) #[true, true, true, true, true, true, true, true, true, true, true, true, true, true, true, true, true, true, true, true, true, true, true, true, true, true, true, true, true, true, true, true, true, true, true, true, true, false, false, false, false, false, false, false, false, false] rfl rfl (any_of HT_.out (by kernel_rfl)) (fun _ _ _ h => h) (Or.inl ⟨by rfl, ?_⟩) ?_ ?_
              rotate_left
              · intro w'
                go_simp
                with_reducible rfl
              rotate_left
              · simp only [Act.put, List.setIfInBounds_toArray, List.set_cons_zero, List.set_cons_succ, i64_w, i32_w]
                rfl
              refine pure_ (i := 37) (N := some 85) (v := ?_) (a' := ?_) #[true, true, true, true, true, true, true, true, true, true, true, true, true, true, true, true, true, true, true, true, true, true, true, true, true, true, true, true, true, true, true, true, true, true, true, true, true, true, false, false, false, false, false, false, false, false] rfl rfl (any_of HT_.out (by kernel_rfl)) (fun _ _ _ h => h) (Or.inl ⟨by rfl, ?_⟩) ?_ ?_
              rotate_left
              · intro w'
                go_simp
                with_reducible rfl
              rotate_left
              · simp only [Act.put, List.setIfInBounds_toArray, List.set_cons_zero, List.set_cons_succ, i64_w, i32_w]
                rfl
              refine pure_ (i := 38) (N := some 86) (v := ?_) (a' := ?_) #[true, true, true, true, true, true, true, true, true, true, true, true, true, true, true, true, true, true, true, true, true, true, true, true, true, true, true, true, true, true, true, true, true, true, true, true, true, true, true, false, false, false, false, false, false, false] rfl rfl (any_of HT_.out (by kernel_rfl)) (fun _ _ _ h => h) (Or.inl ⟨by rfl, ?_⟩) ?_ ?_
              rotate_left
              · intro w'
                go_simp
                with_reducible rfl
              rotate_left
              · simp only [Act.put, List.setIfInBounds_toArray, List.set_cons_zero, List.set_cons_succ, i64_w, i32_w]
                rfl
              refine pure_ (i := 39) (N := some 87) (v := ?_) (a' := ?_) #[true, true, true, true, true, true, true, true, true, true, true, true, true, true, true, true, true, true, true, true, true, true, true, true, true, true, true, true, true, true, true, true, true, true, true, true, true, true, true, true, false, false, false, false, false, false] rfl rfl (any_of HT_.out (by kernel_rfl)) (fun _ _ _ h => h) (Or.inl ⟨by rfl, ?_⟩) ?_ ?_
              rotate_left
              · intro w'
                go_simp
                with_reducible rfl
              rotate_left
              · simp only [Act.put, List.setIfInBounds_toArray, List.set_cons_zero, List.set_cons_succ, i64_w, i32_w]
                rfl
              refine pure_ (i := 42) (N := some 90) (v := ?_) (a' := ?_) #[true, true, true, true, true, true, true, true, true, true, true, true, true, true, true, true, true, true, true, true, true, true, true, true, true, true, true, true, true, true, true, true, true, true, true, true, true, true, true, true, false, false, true, false, false, false] rfl rfl (any_of HT_.out (by kernel_rfl)) (fun _ _ _ h => h) (Or.inl ⟨by rfl, ?_⟩) ?_ ?_
              rotate_left
              · intro w'
                go_simp
                with_reducible rfl
              rotate_left
              · simp only [Act.put, List.setIfInBounds_toArray, List.set_cons_zero, List.set_cons_succ, i64_w, i32_w]
                rfl
              refine pure_ (i := 43) (N := some 91) (v := ?_) (a' := ?_) #[true, true, true, true, true, true, true, true, true, true, true, true, true, true, true, true, true, true, true, true, true, true, true, true, true, true, true, true, true, true, true, true, true, true, true, true, true, true, true, true, false, false, true, true, false, false] rfl rfl (any_of HT_.out (by kernel_rfl)) (fun _ _ _ h => h) (Or.inl ⟨by rfl, ?_⟩) ?_ ?_
              rotate_left
              · intro w'
                go_simp
                with_reducible rfl
              rotate_left
              · simp only [Act.put, List.setIfInBounds_toArray, List.set_cons_zero, List.set_cons_succ, i64_w, i32_w]
                rfl
              refine take_ (i := 40) (N := some 88) (v := ?_) (a' := ?_) #[true, true, true, true, true, true, true, true, true, true, true, true, true, true, true, true, true, true, true, true, true, true, true, true, true, true, true, true, true, true, true, true, true, true, true, true, true, true, true, true, true, false, true, true, false, false] rfl rfl (take_ofW HT_.out HW_.out (by kernel_rfl)) (fun _ _ _ h => h) (Or.inl ⟨by rfl, ?_⟩) hHeld ?_ ?_
              rotate_left
              · rintro w' ⟨s0, s1, s2, s3, s4, s5⟩
                go_simp
                with_reducible rfl
              rotate_left
              · simp only [Act.put, List.setIfInBounds_toArray, List.set_cons_zero, List.set_cons_succ, i64_w, i32_w]
                rfl
              refine pure_ (i := 41) (N := some 89) (v := ?_) (a' := ?_) #[true, true, true, true, true, true, true, true, true, true, true, true, true, true, true, true, true, true, true, true, true, true, true, true, true, true, true, true, true, true, true, true, true, true, true, true, true, true, true, true, true, true, true, true, false, false] rfl rfl (any_of HT_.out (by kernel_rfl)) (fun _ _ _ h => h) (Or.inl ⟨by rfl, ?_⟩) ?_ ?_
              rotate_left
              · intro w'
                go_simp
                with_reducible rfl
              rotate_left
              · simp only [Act.put, List.setIfInBounds_toArray, List.set_cons_zero, List.set_cons_succ, i64_w, i32_w]
                rfl
              refine pure_ (i := 44) (N := some 92) (v := ?_) (a' := ?_) #[true, true, true, true, true, true, true, true, true, true, true, true, true, true, true, true, true, true, true, true, true, true, true, true, true, true, true, true, true, true, true, true, true, true, true, true, true, true, true, true, true, true, true, true, true, false] rfl rfl (any_of HT_.out (by kernel_rfl)) (fun _ _ _ h => h) (Or.inl ⟨by rfl, ?_⟩) ?_ ?_
              rotate_left
              · intro w'
                go_simp
                with_reducible rfl
              rotate_left
              · simp only [Act.put, List.setIfInBounds_toArray, List.set_cons_zero, List.set_cons_succ, i64_w, i32_w]
                rfl
              refine pure_ (i := 45) (N := some 93) (v := ?_) (a' := ?_) #[true, true, true, true, true, true, true, true, true, true, true, true, true, true, true, true, true, true, true, true, true, true, true, true, true, true, true, true, true, true, true, true, true, true, true, true, true, true, true, true, true, true, true, true, true, true] rfl rfl (any_of HT_.out (by kernel_rfl)) (fun _ _ _ h => h) (Or.inl ⟨by rfl, ?_⟩) ?_ ?_
              rotate_left
              · intro w'
                go_simp
                with_reducible rfl
              rotate_left
              · simp only [Act.put, List.setIfInBounds_toArray, List.set_cons_zero, List.set_cons_succ, i64_w, i32_w]
                rfl
              refine done_ (done_of HT_.out (by kernel_rfl)) ?_
              clear hHeld
              have PX := PD
              clear PD
              go_wp2
              go_loopg [12, 96] es.length (fun kq v12 v96 wl => ∃ (m : Nat) (mm : Int) (f : Bool), m + kq = es.length ∧ v96 = .int .i64 mm ∧ v12 = .bool f ∧ Aside0 (mm = (m : Int)) ∧ Aside0 (f = ((es.map toS).take m).any (eqS x)) ∧ Aside0 (Below wd.heap.size wd wl))
              case atStart => exact ⟨0, 0, false, by omega, rfl, rfl, ⟨rfl⟩, ⟨rfl⟩, ⟨Below.refl _ _⟩⟩
              case round =>
                obtain ⟨m, mm, f, hm, rfl, rfl, HMM, HF, BM⟩ := hrel
                have HM := Aside0.mk hm
                by_cases hlm : m < es.length
                · have hcm : decide (mm < (es.length : Int)) = true := decide_eq_true (by have := HMM.out; omega)
                  have HLM := Aside0.mk hlm
                  have p4 : 0 ≤ mm := by have := HMM.out; omega
                  have q4 : mm < ((es.map toS).length : Int) := by rw [List.length_map]; have := HMM.out; omega
                  obtain ⟨ad9, e9, hw0, hw1, hw2⟩ := at_T42 (Kd.C_below C8.out (below_step BD.out BM.out)) mm p4 q4
                  subst e9
                  have hlm' : m < (es.map toS).length := by rw [List.length_map]; exact hlm
                  have hrd : rd_T42 (es.map toS) mm = (es.map toS)[m] := by rw [HMM.out]; simp [rd_T42, List.getD, hlm]
                  have TKM := Aside0.mk (take_any (es.map toS) (eqS x) hlm')
                  rw [hrd] at hw0 hw1 hw2
                  generalize (es.map toS)[m] = y at hw0 hw1 hw2 TKM
                  have PXM := Aside0.mk (blk_below PX.out BM.out)
                  rw [List.length_map] at q4
                  clear hm hlm hrd hlm'
                  cases f with
                  | true =>
                    go_wp2_with (first
                      | ((with_reducible refine gate_dst (N := 14) rfl ?_); refine box_event ?hg (N := 14) ?hd (cs := #[.int .u32 0, .int .i64 0, .int .i64 0]) (t := 42) ?hr ?_; (case hd => rfl); (case hg => rfl); (case hr => first | (go_simp; done) | (go_simp; rfl)); intro gy hgy w13 hbox hb; have BO := Aside0.mk hbox; have HB5 := Aside0.mk hb; have HGgy := Aside0.mk hgy; have PX13 := Aside0.mk (blk_below PXM.out hb); clear hgy hbox hb)
                      | ((with_reducible refine gate_ (.store 42 (.tmp 14) (.tmp 99)) rfl ?_); refine Hand.wpList_store_blk rfl rfl 42 (.tmp 14) (.tmp 99) rfl [.int .u32 y.f0.f0, .int .i64 y.f0.f1, .int .i64 y.f1] #[.int .u32 y.f0.f0, .int .i64 y.f0.f1, .int .i64 y.f1] rfl rfl BO.out rfl size42 (Nat.le_refl 3) (fun u hu => by simp at hu; rcases hu with rfl | rfl | rfl <;> rfl) rfl (fun w14 hp => ?_); have PY := Aside0.mk hp.box; have HB7 := Aside0.mk (hp.bl _ HB5.out (Nat.le_of_eq HGgy.out.symm)); have HM6 := Aside0.mk (below_step BM.out HB7.out); have PX14 := Aside0.mk (hp.keep PX13.out (by have h1 := blk_lt PXM.out; have h2 := HGgy.out; omega)); have y0 : w14.cell? ⟨gy, 0, none⟩ = some (.int .u32 y.f0.f0) := (blk_cell PY.out 0).trans rfl; have y1 : w14.cell? ⟨gy, 1, none⟩ = some (.int .i64 y.f0.f1) := (blk_cell PY.out 1).trans rfl; have y2 : w14.cell? ⟨gy, 2, none⟩ = some (.int .i64 y.f1) := (blk_cell PY.out 2).trans rfl; have x0 : w14.cell? ⟨gx, 0, none⟩ = some (.int .u32 x.f0.f0) := (blk_cell PX14.out 0).trans rfl; have x1 : w14.cell? ⟨gx, 1, none⟩ = some (.int .i64 x.f0.f1) := (blk_cell PX14.out 1).trans rfl; have x2 : w14.cell? ⟨gx, 2, none⟩ = some (.int .i64 x.f1) := (blk_cell PX14.out 2).trans rfl; clear hw0 hw1 hw2; clear hp))
                    go_roundg (es.length - (m + 1))
                    case measure => have := HM.out; have := HLM.out; omega
                    case rel => exact ⟨m + 1, mm + 1, true, by have := HLM.out; omega, by rw [wrap64_id _ (by have := HMM.out; omega) (by have := HMM.out; have := HLM.out; have := HES.out; omega)], rfl, ⟨by have := HMM.out; omega⟩, ⟨by rw [TKM.out, ← HF.out]; rfl⟩, HM6⟩
                  | false =>
                    go_wp2_with (first
                      | ((with_reducible refine gate_dst (N := 14) rfl ?_); refine box_event ?hg (N := 14) ?hd (cs := #[.int .u32 0, .int .i64 0, .int .i64 0]) (t := 42) ?hr ?_; (case hd => rfl); (case hg => rfl); (case hr => first | (go_simp; done) | (go_simp; rfl)); intro gy hgy w13 hbox hb; have BO := Aside0.mk hbox; have HB5 := Aside0.mk hb; have HGgy := Aside0.mk hgy; have PX13 := Aside0.mk (blk_below PXM.out hb); clear hgy hbox hb)
                      | ((with_reducible refine gate_ (.store 42 (.tmp 14) (.tmp 99)) rfl ?_); refine Hand.wpList_store_blk rfl rfl 42 (.tmp 14) (.tmp 99) rfl [.int .u32 y.f0.f0, .int .i64 y.f0.f1, .int .i64 y.f1] #[.int .u32 y.f0.f0, .int .i64 y.f0.f1, .int .i64 y.f1] rfl rfl BO.out rfl size42 (Nat.le_refl 3) (fun u hu => by simp at hu; rcases hu with rfl | rfl | rfl <;> rfl) rfl (fun w14 hp => ?_); have PY := Aside0.mk hp.box; have HB7 := Aside0.mk (hp.bl _ HB5.out (Nat.le_of_eq HGgy.out.symm)); have HM6 := Aside0.mk (below_step BM.out HB7.out); have PX14 := Aside0.mk (hp.keep PX13.out (by have h1 := blk_lt PXM.out; have h2 := HGgy.out; omega)); have y0 : w14.cell? ⟨gy, 0, none⟩ = some (.int .u32 y.f0.f0) := (blk_cell PY.out 0).trans rfl; have y1 : w14.cell? ⟨gy, 1, none⟩ = some (.int .i64 y.f0.f1) := (blk_cell PY.out 1).trans rfl; have y2 : w14.cell? ⟨gy, 2, none⟩ = some (.int .i64 y.f1) := (blk_cell PY.out 2).trans rfl; have x0 : w14.cell? ⟨gx, 0, none⟩ = some (.int .u32 x.f0.f0) := (blk_cell PX14.out 0).trans rfl; have x1 : w14.cell? ⟨gx, 1, none⟩ = some (.int .i64 x.f0.f1) := (blk_cell PX14.out 1).trans rfl; have x2 : w14.cell? ⟨gx, 2, none⟩ = some (.int .i64 x.f1) := (blk_cell PX14.out 2).trans rfl; clear hw0 hw1 hw2; clear hp))
                    go_roundg (es.length - (m + 1))
                    case measure => have := HM.out; have := HLM.out; omega
                    case rel => exact ⟨m + 1, mm + 1, eqS x y, by have := HLM.out; omega, by rw [wrap64_id _ (by have := HMM.out; omega) (by have := HMM.out; have := HLM.out; have := HES.out; omega)], rfl, ⟨by have := HMM.out; omega⟩, ⟨by rw [TKM.out, ← HF.out]; rfl⟩, HM6⟩
                · have hcm : decide (mm < (es.length : Int)) = false := decide_eq_false (by have := HMM.out; omega)
                  obtain rfl : m = es.length := by omega
                  have hft : f = true := by rw [HF.out, List.take_of_length_le (by rw [List.length_map]; exact Nat.le_refl _)]; exact any_eqS MEM.out
                  subst hft
                  clear hm hlm
                  go_wp2
                  go_roundg (es.length - (j + 1))
                  case measure => have := HJ.out; have := HLJ.out; omega
                  case rel => exact ⟨j + 1, ji + 1, by have := HLJ.out; omega, by rw [wrap64_id _ (by have := HJI.out; omega) (by have := HJI.out; have := HLJ.out; have := HES.out; omega)], ⟨by have := HJI.out; omega⟩, ⟨below_step BD.out BM.out⟩⟩
        · have hcj : decide (ji < (es.length : Int)) = false := decide_eq_false (by have := HJI.out; omega)
          obtain rfl : j = es.length := by omega
          have T9 := Aside0.mk (T8.out.below BL.out)
          clear hj hlj
          go_wp2_with (first
            | (go_at_call 7; refine (awake_.calls _).mono ?_; rintro e w20 ⟨rfl, hb⟩; have T20 := Aside0.mk (T9.out.below hb); clear hb)
            | (go_at_call 12; (with_reducible refine (T20.out.meet (Below.refl _ _) LN2.out (show (0 : Int) ≤ 0 by decide) (show (0 : Int) < 4294967296 by decide) 0).mono ?_); rintro e w21 ⟨v8, rfl, h8, hb8⟩; rw [show (0 : Int).toNat = 0 from rfl, MW.out] at h8; obtain ⟨X9, x9, rfl, hx9, hC9⟩ := Kd.R_reads h8; rw [List.length_map]; have T21 := Aside0.mk (T20.out.below hb8); clear h8 hb8 hC9 hx9)
            | (go_at_call 13; (with_reducible refine (T21.out.len (Below.refl _ _)).mono ?_); rintro e w22 ⟨rfl, hb⟩; have B22 := Aside0.mk (T21.out.below hb).bl; clear hb))
          go_ret
          exact ⟨by first | rfl | simp, B22.out⟩


/-! ### crossbucklaw10_TrieWidest: function 4 (by hand) -/
def crossbucklaw10_TrieWidest.f (l0 : List S35) (a1 : Int) : Option Bool := if (∀ o ∈ l0, okO o) ∧ 0 ≤ a1 ∧ a1 < 4294967296 then some true else none
set_option maxHeartbeats 8000000 in
set_option maxRecDepth 100000 in
theorem widest_long (A0 : Option Addr) (c0 : Nat) (l0 : List S35) (a1 : Int) (w : World) (h : 60 < l0.length) :
    Calls Try.prog 4 #[.slice A0 l0.length c0, .int .u32 a1] w fun e w' => e = .returned (.bool true) ∧ Below w.heap.size w w' := by
  have B0 := Aside0.mk (Below.refl w.heap.size w)
  have q1 : decide (60 < l0.length) = true := decide_eq_true h
  have q3 : decide ((60 : Int) < (l0.length : Int)) = true := decide_eq_true (by omega)
  clear h
  go_enter Try.func4, Try.ntmps4
  go_wp2_with (first
    | (go_at_call 7; refine (awake_.calls _).mono ?_; rintro e w5 ⟨rfl, hb⟩; have B5 := Aside0.mk (below_step B0.out hb); clear hb))
  go_ret
  exact ⟨rfl, B5.out⟩
theorem crossbucklaw10_TrieWidest.calls (A0 : Option Addr) (c0 : Nat) (l0 : List S35) (a1 : Int) (r : Bool) (w : World) (hr0 : Kd.C k35 w A0 l0.length l0) (hc0 : l0.length ≤ c0) (h : crossbucklaw10_TrieWidest.f l0 a1 = some r) :
    Calls Try.prog 4 #[.slice A0 l0.length c0, .int .u32 a1] w fun e w' => e = .returned (.bool r) ∧ Below w.heap.size w w' := by
  unfold crossbucklaw10_TrieWidest.f at h
  by_cases hk : (∀ o ∈ l0, okO o) ∧ 0 ≤ a1 ∧ a1 < 4294967296
  · rw [if_pos hk] at h
    obtain rfl := Option.some.inj h
    by_cases h1 : 60 < l0.length
    · exact widest_long A0 c0 l0 a1 w h1
    · exact widest_walk A0 c0 l0 a1 w hr0 hc0 (by omega) hk.1 hk.2.1 hk.2.2
  · rw [if_neg hk] at h
    cases h

end Go.Proofs.Ytbmibakhpealjaa.PTr
